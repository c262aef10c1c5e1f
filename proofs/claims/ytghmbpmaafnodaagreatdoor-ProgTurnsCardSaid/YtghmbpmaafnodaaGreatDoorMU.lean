/- Part. -/
import Derived.Test.YtghmbpmaafnodaaGreatDoorMR
set_option linter.defProp false
open Option renaming some→I,none→u
open Bool renaming true→Y,false→X,and_eq_true→tu,or_eq_false_iff→BC,and_self→EF,true_and→FG
open Go.bk.aa renaming int→J,str→Z
open Go.IntKind renaming i64→U
open List renaming length_nil→de,length_cons→ef,length_append→fg,append_assoc→hi,mem_cons_of_mem→ij,mem_cons_self→kl,cons_append→mn,append_nil→pq,replicate_succ→rs,length_singleton→uv,length_eq_zero_iff→vw,replicate→wx,not_mem_nil→xy,replicate_succ'→zA,nil_append→AB,mem_cons→CD,all_cons→DE,flatten_cons→GH,all_nil→HI,mem_append→IJ
open Int renaming reduceBEq→gh
open Nat renaming add_zero→jk,reduceAdd→lm,reduceLeDiff→yz
namespace Go.Proofs.YtghmbpmaafnodaaGreatDoor
open Go.bk
def kS(w:ay):Prop:=∀b r,w=b::r->cy b=X/\cu b=X
def mM(l:List bQ):Prop:=∀r,kS (flat r)->kS (flat (l++r))
def h9(l:List bQ):Prop:=∀t∈aL l,t.pos=0
structure cr(l:List bQ):Prop where
 z:h9 l
 k:∀r,iu r->kS (flat r)->iu (l++r)
structure a(l:List bQ):Prop where
 z:h9 l
 k:∀r,iu r->iu (l++r)
def a.BX{l:List bQ}(h:a l):cr l:=⟨h.z,λr c _=>h.k r c⟩
def h9.app{l m:List bQ}(h:h9 l)(aU:h9 m):h9 (l++m):=by
 intro t aq;rw[dE,IJ]at aq;exact aq.elim (h t) (aU t)
def h9.tok{t:Tok}{l:List bQ}(h:t.pos=0)(aU:h9 l):h9 (.t t::l):=by
 intro a hu;rw[aL,CD]at hu;rcases hu with rfl|hu
 ·exact h
 ·exact aU a hu
def cr.nil:cr []:=⟨λt aq=>(xy aq).elim,λr h _=>h⟩
def a.nil:a []:=⟨λt aq=>(xy aq).elim,λr h=>h⟩
def cr.app{l m:List bQ}(h:cr l)(aU:cr m)(c:mM m):cr (l++m):=
 ⟨h.z.app aU.z,λr d a=>by rw[hi];exact h.k _ (aU.k r d a) (c r a)⟩
def cr.apps{l m:List bQ}(h:cr l)(aU:a m)(c:∀r,kS (flat (m++r))):a (l++m):=
 ⟨h.z.app aU.z,λr d=>by rw[hi];exact h.k _ (aU.k r d) (c r)⟩
def a.app{l m:List bQ}(h:a l)(aU:a m):a (l++m):=
 ⟨h.z.app aU.z,λr c=>by rw[hi];exact h.k _ (aU.k r c)⟩
def a.Et{l m:List bQ}(h:a l)(aU:cr m):cr (l++m):=
 ⟨h.z.app aU.z,λr d c=>by rw[hi];exact h.k _ (aU.k r d c)⟩
def a.b{s:ay}{l:List bQ}(au:s.all gi=Y)(h:a l):a (.b s::l):=⟨h.z,λr c=>⟨au,h.k r c⟩⟩
def cr.b{s:ay}{l:List bQ}(au:s.all gi=Y)(h:cr l):cr (.b s::l):=⟨h.z,λr c a=>⟨au,h.k r c a⟩⟩
def iv(x:ay):Prop:=iw ⟨4,x,0,0⟩/\∀b,kq ⟨4,x,0,0⟩ b=Y
def KP{t:Tok}(h:∀b,kq t b=Y):∀w,l0 t w=Y
 |[]=>rfl
 |b::_=>h b
def a.bp{x:ay}{l:List bQ}(c:iv x)(h:a l):a (bp x::l):=⟨h9.tok rfl h.z,λr d=>⟨c.1,KP c.2 _,h.k r d⟩⟩
def cr.bp{x:ay}{l:List bQ}(a:iv x)(h:cr l):cr (bp x::l):=⟨h9.tok rfl h.z,λr d c=>⟨a.1,KP a.2 _,h.k r d c⟩⟩
def zM(x:ay):Prop:=iw ⟨4,x,0,0⟩/\kq ⟨4,x,0,0⟩ 32=Y
def cr.op{x:ay}{l:List bQ}(a:zM x)(h:cr l):cr (Go.Proofs.YtghmbpmaafnodaaGreatDoor.bp x::b9::l):=⟨h9.tok rfl h.z,λr d c=>⟨a.1,a.2,⟨aC,h.k r d c⟩⟩⟩
def KQ{t:Tok}(aq:(t.kind==4)=X){w:ay}(h:kS w):l0 t w=true:=by
 cases w with
 |nil=>rfl
 |cons b r=>
  obtain⟨a,c⟩:=h b r rfl;rw[l0,kq,aq,aH,a,c];rfl
def cr.tok{t:Tok}{l:List bQ}(aq:iw t)(d:(t.kind==4)=X)(c:t.pos=0)(h:cr l)(e:mM l):cr (.t t::l):=⟨h9.tok c h.z,λr i a=>⟨aq,KQ d (e r a),h.k r i a⟩⟩
def a.tok{t:Tok}{l:List bQ}(aq:iw t)(d:(t.kind==4)=X)(c:t.pos=0)(h:a l)(e:∀r,kS (flat (l++r))):a (.t t::l):=⟨h9.tok c h.z,λr i=>⟨aq,KQ d (e r),h.k r i⟩⟩
def mA{x:ay}(h:dJ x=Y):iw ⟨1,x,0,0⟩:= .inl ⟨rfl,rfl,h⟩
def g7{x:ay}(h:fB x=Y):iw ⟨3,x,0,0⟩:= .inr (.inl ⟨rfl,rfl,h⟩)
def mM.nil:mM []:=λ_ h=>h
def vW{c:UInt8}{w:ay}(h:cy c=X/\cu c=X):kS (c::w):=by
 intro b r e;cases e;exact h
def hh{c:UInt8}{x:ay}(h:cy c=X/\cu c=X)(l r:List bQ):kS (flat ((bp (c::x)::l)++r)):=vW h
def gy(l r:List bQ):kS (flat ((b9::l)++r)):=vW aC
def TJ(l r:List bQ):kS (flat ((nl::l)++r)):=vW aC
def my{c:UInt8}(h:gQ c gz=Y):iw ⟨4,[c],0,0⟩:= .inr (.inr (.inr ⟨rfl,rfl,.inr ⟨c,rfl,h⟩⟩))
def uR{x:ay}(h:ez x gM=Y):iw ⟨4,x,0,0⟩:= .inr (.inr (.inr ⟨rfl,rfl,.inl h⟩))
def kG{c:UInt8}(h:gQ c gz=Y)(aU:(c==60||(c==61||(c==33||(c==38||(c==124||c==47)))))=X):iv [c]:=by
 refine⟨my h,λb=> ?_⟩;simp only[BC,beq_eq_false_iff_ne]at aU;obtain⟨aI,a2,a3,a4,a5,a⟩:=aU;have ap:∀y:UInt8,y≠c->∀z:UInt8,([y,z]==[c,b])=false:=λy d z=>by simp[d]
 simp only[kq,beq_self_eq_true,aK,ef,de,mn,AB,ez,gM];rw[ap 60 (Ne.symm aI),ap 61 (Ne.symm a2),ap 33 (Ne.symm a3),ap 38 (Ne.symm a4),ap 124 (Ne.symm a5)];simp[a]
def sr:iv [40]:=kG aC aC
def ss:iv [41]:=kG aC aC
def C_:iv [91]:=kG aC aC
def uQ:iv [93]:=kG aC aC
def MI:iv [123]:=kG aC aC
def MJ:iv [125]:=kG aC aC
def MK:iv [44]:=kG aC aC
def aaM:iv [46]:=kG aC aC
def ML:iv [58]:=kG aC aC
def C9:iv [59]:=kG aC aC
def aaL:iv [45]:=kG aC aC
def Da:zM [61]:=⟨my aC,by decide+kernel⟩
def aaN{k:Int}(h:14<=k)(aU:k<=24):zM (gB k):=by
 have a:k=14\/k=15\/k=16\/k=17\/k=18\/k=19\/k=20\/k=21\/k=22\/k=23\/k=24:=ae;rcases a with rfl|rfl|rfl|rfl|rfl|rfl|rfl|rfl|rfl|rfl|rfl
 ·exact⟨my (c:=43) aC,by decide+kernel⟩
 ·exact⟨my (c:=45) aC,by decide+kernel⟩
 ·exact⟨my (c:=42) aC,by decide+kernel⟩
 ·exact⟨my (c:=47) aC,by decide+kernel⟩
 ·exact⟨my (c:=37) aC,by decide+kernel⟩
 ·exact⟨my (c:=60) aC,by decide+kernel⟩
 ·exact⟨uR (x:=[60,61]) aC,by decide+kernel⟩
 ·exact⟨uR (x:=[61,61]) aC,by decide+kernel⟩
 ·exact⟨uR (x:=[33,61]) aC,by decide+kernel⟩
 ·exact⟨uR (x:=[38,38]) aC,by decide+kernel⟩
 ·exact⟨uR (x:=[124,124]) aC,by decide+kernel⟩
def wl{x:ay}(c:iv x)(n:Nat):a (rep n (bp x)):=by
 unfold rep
 induction n with
 |zero=>exact .nil
 |succ n d=>rw[rs];exact .bp c d
def BA{c:UInt8}(h:cy c=X/\cu c=X)(n:Nat):mM (rep n (bp [c])):=by
 intro r a;unfold rep;cases n with
 |zero=>exact a
 |succ n=>rw[rs];exact vW h
def wk{x:ay}{z:Int}(h:hb x z):cr (cR x z):=by
 unfold cR;refine(wl C_ _).Et ?_;obtain⟨-,-,a⟩:=h;unfold qa;rcases a with a|rfl|rfl
 ·rw[KD a,aH];exact .tok (mA a) rfl rfl (wl uQ _).BX (BA aC _)
 ·rw[show fB [105,110,116]=Y from aC,aK];exact .tok (g7 aC) rfl rfl (wl uQ _).BX (BA aC _)
 ·rw[show fB [98,111,111,108]=Y from aC,aK];exact .tok (g7 aC) rfl rfl (wl uQ _).BX (BA aC _)
def ob(l:List bQ):Prop:=∀r,∃b w,flat (l++r)=b::w/\b≠61
def ob.app{l:List bQ}(h:ob l)(m:List bQ):ob (l++m):=λr=>by rw[hi];exact h _
def TA{x:ay}(h:dJ x=Y):∃c r,x=c::r/\cy c=true:=by
 unfold dJ at h;simp only[tu,decide_eq_true_eq]at h;cases x with
 |nil=>simp at h
 |cons c r=>exact⟨c,r,rfl,h.2.2.1⟩
def Hf{x:ay}(h:dJ x=Y)(l:List bQ):ob (nm x::l):=by
 obtain⟨c,r,rfl,a⟩:=TA h;intro q;exact⟨c,_,rfl,λe=>by subst e;exact absurd a aC⟩
def vt{m:Nat}{e:az}(h:ob (be e)):ob (cC m e):=by
 by_cases ak:e.aM<m
 ·rw[q6 ak];exactλr=>⟨40,_,rfl,aC⟩
 ·rw[l1 ak];exact h
def vV:cy 40=X/\cu 40=false:=aC
def tv:cy 41=X/\cu 41=false:=aC
def KE:cy 44=X/\cu 44=false:=aC
def TG:cy 46=X/\cu 46=false:=aC
def TH:cy 58=X/\cu 58=false:=aC
def Bz:cy 59=X/\cu 59=false:=aC
def TI:cy 91=X/\cu 91=false:=aC
def KF:cy 93=X/\cu 93=false:=aC
def tF{m:Nat}{e:az}(h:cr (be e)):cr (cC m e):=by
 by_cases ak:e.aM<m
 ·rw[q6 ak];exact .bp sr (h.app (.bp ss .nil) λr _=>hh tv _ _)
 ·rw[l1 ak];exact h
def Lt:∀l:List az,(∀e∈l,cr (be e))->cr (fG (di l))
 |[],_=> .nil
 |[e],h=>by rw[di,di,fG];exact h e (kl)
 |e::f::es,h=>by
  have c:=Lt (f::es) λx a=>h x (ij _ a)
  rw[di,show di (f::es)=(f.aM,be f)::di es from rfl,fG]
  ·rw[<-show di (f::es)=(f.aM,be f)::di es from rfl];exact(h e (kl)).app (.bp MK (.b aC c)) λr _=>hh KE _ _
  ·simp
def l2{d m:Nat}{e:az}(h:cx d m e):cr (be e)/\ob (be e):=by
 induction h with
 |par _ _ _ o=>exact o
 | @int d m n p _ A B=>
  rw[eP];refine⟨cr.tok (.inr (.inr (.inl ⟨rfl,rfl,A,B⟩))) rfl rfl .nil .nil,λr=> ?_⟩;obtain⟨c,q,e,-⟩:=An 20 n.toNat [] (by rw[wm];omega) ae;have F:cu c=true:=Am 20 n.toNat [] (λ_ h=>(xy h).elim) c (by rw[e];exact kl);refine⟨c,q++flat r,?_,λe=>by subst e;exact absurd F aC⟩;show hS 20 n.toNat []++flat r=_;rw[e];rfl
 | @bool d m n p _ L=>
  rw[eP];rcases L with rfl|rfl
  ·exact⟨cr.tok (g7 (x:=[102,97,108,115,101]) aC) rfl rfl .nil .nil,λr=>⟨102,_,rfl,aC⟩⟩
  ·exact⟨cr.tok (g7 (x:=[116,114,117,101]) aC) rfl rfl .nil .nil,λr=>⟨116,_,rfl,aC⟩⟩
 | @null d m x z p _ j=>
  rw[eP];exact⟨cr.tok (g7 aC) rfl rfl (cr.b aC (wk j)) λr _=>gy _ _,λr=>⟨110,_,rfl,aC⟩⟩
 | @var d m x p _ j=>
  rw[eP];exact⟨cr.tok (mA j) rfl rfl .nil .nil,Hf j []⟩
 | @field d m x p e _ j _ o=>
  rw[q9];exact⟨(tF o.1).app (.bp aaM (.tok (mA j) rfl rfl .nil .nil)) λr _=>hh TG _ _,(vt o.2).app _⟩
 | @item d m p e i _ _ _ ih1 ih2=>
  rw[q_];exact⟨(tF ih1.1).app (.bp C_ (ih2.1.app (.bp uQ .nil) λr _=>hh KF _ _)) λr _=>hh TI _ _,(vt ih1.2).app _⟩
 | @call d m x p l _ j _ o=>
  rw[q8];exact⟨.tok (mA j) rfl rfl (.bp sr ((Lt l λe G=>(o e G).1).app (.bp ss .nil) λr _=>hh tv _ _)) λr _=>hh vV _ _,Hf j _⟩
 | @new d m x p _ j=>
  rw[eP];exact⟨cr.tok (g7 aC) rfl rfl (cr.b aC (cr.tok (mA j) rfl rfl .nil .nil)) λr _=>gy _ _,λr=>⟨110,_,rfl,aC⟩⟩
 | @make d m x z p e _ j _ o=>
  rw[rb];exact⟨.tok (g7 aC) rfl rfl (.b aC (.bp C_ ((wk j).app (.bp uQ (.bp sr (o.1.app (.bp ss .nil) λr _=>hh tv _ _))) λr _=>hh KF _ _))) λr _=>gy _ _,λr=>⟨110,_,rfl,aC⟩⟩
 | @len d m p e _ _ o=>
  rw[ra];exact⟨.tok (g7 aC) rfl rfl (.bp sr (o.1.app (.bp ss .nil) λr _=>hh tv _ _)) λr _=>hh vV _ _,λr=>⟨108,_,rfl,aC⟩⟩
 | @read d m p _=>
  rw[eP];exact⟨cr.tok (g7 aC) rfl rfl (cr.bp sr (cr.bp ss .nil)) λr _=>hh vV _ _,λr=>⟨114,_,rfl,aC⟩⟩
 | @sign d m k p e _ s _ o=>
  rw[oZ s];have v:=tF (m:=6) o.1;have H:=vt (m:=6) o.2;rcases s with rfl|rfl
  ·exact⟨cr.bp aaL v,λr=>⟨45,_,rfl,aC⟩⟩
  ·refine⟨⟨h9.tok rfl v.z,λr M C=>⟨my (c:=33) aC,?_,v.k r M C⟩⟩,λr=>⟨33,_,rfl,aC⟩⟩;obtain⟨b,w,e,E⟩:=H r;show l0 ⟨4,[33],0,0⟩ (flat (cC 6 _++r))=Y;rw[e];show kq ⟨4,[33],0,0⟩ b=Y;have ap:([33,61]==[33,b])=false:=by simp[Ne.symm E]
   simp only[kq,beq_self_eq_true,aK,ef,de,mn,AB,ez,gM,ap];simp
 | @bin d m k p a b _ s K _ _ y N=>
  rw[q7 s];exact⟨(tF y.1).app (.b aC (.op (aaN s K) (tF N.1))) λr _=>gy _ _,(vt y.2).app _⟩
def jh(d:Nat):(pad d).all gi=true:=by
 unfold pad;rw[List.all_eq_true];intro c a;rw[List.eq_of_mem_replicate a];rfl
def rf{x o:ay}{z:Int}(c:dJ x=Y)(a:hb o z):cr (eK x o z):=
 .tok (mA c) rfl rfl (.bp ML (.b aC (wk a))) λr _=>hh TH _ _
def nf:cr [bp [59]]:= .bp C9 .nil
def na:mM [bp [59]]:=λr _=>hh Bz _ _
def wj{d:ay}{B:List bQ}(c:d.all gi=Y)(h:a B):cr (dC d B):=
 .b aC (.bp MI (.b aC (a.Et h (.b c (.bp MJ .nil)))))
def TK(d:ay)(B:List bQ):mM (dC d B):=λr _=>gy _ _
def cr.line{l:List bQ}(h:cr l):a (l++[nl]):=h.apps (.b aC .nil) λr=>TJ _ _
def tG{d deep:Nat}:∀l:List a6,(∀s∈l,a (dX deep s))->a (bN deep l)
 |[],_=>by rw[bN];exact .nil
 |s::r,h=>by rw[bN];exact(h s (kl)).app (tG (d:=d) r λx c=>h x (ij _ c))
def Uq{d:Nat}{s:a6}(h:en d s):∀deep,a (dX deep s):=by
 induction h with
 | @var d x y z p j k=>
  intro deep;rw[dX];exact .b (jh _) (cr.line (show cr (wd mH::b9::(eK x y z++[bp [59]]))from .tok (g7 aC) rfl rfl (.b aC ((rf j k).app nf na)) λr _=>gy _ _))
 | @lets d x y z p e j k i=>
  intro deep;rw[dX];exact .b (jh _) (cr.line (show cr (wd mF::b9::(eK x y z++b9::bp [61]::b9::(be e++[bp [59]])))from .tok (g7 aC) rfl rfl (.b aC ((rf j k).app (.b aC (.op Da ((l2 i).1.app nf na))) λr _=>gy _ _)) λr _=>gy _ _))
 | @set d x p e j i=>
  intro deep;rw[dX];exact .b (jh _) (cr.line (show cr (nm x::b9::bp [61]::b9::(be e++[bp [59]]))from .tok (mA j) rfl rfl (.b aC (.op Da ((l2 i).1.app nf na))) λr _=>gy _ _))
 | @put d p e f o i n=>
  intro deep;rw[dX];exact .b (jh _) (cr.line (show cr (be e++b9::bp [61]::b9::(be f++[bp [59]]))from(l2 i).1.app (.b aC (.op Da ((l2 n).1.app nf na))) λr _=>gy _ _))
 | @ifs d p e b c i m v l q=>
  intro deep;rw[dX];refine .b (jh _) (cr.line (show cr (wd j6::b9::(be e++(dC (pad deep) (bN (deep+1) b)++bif c.isEmpty then[]else b9::wd kL::dC (pad deep) (bN (deep+1) c))))from ?_));have B:=wj (jh deep) (tG (d:=d) (deep:=deep+1) b λs au=>l s au _);have C:=wj (jh deep) (tG (d:=d) (deep:=deep+1) c λs au=>q s au _);refine .tok (g7 aC) rfl rfl (.b aC ((l2 i).1.app ?_ ?_)) λr _=>gy _ _
  ·cases c.isEmpty with
   |true=>exact B.app .nil .nil
   |false=>exact B.app (.b aC (.tok (g7 aC) rfl rfl C λr _=>gy _ _)) λr _=>gy _ _
  ·intro r _;rw[hi];exact gy _ _
 | @«while» d p e b i m l=>
  intro deep;rw[dX];have B:=wj (jh deep) (tG (d:=d) (deep:=deep+1) b λs au=>l s au _);exact .b (jh _) (cr.line (show cr (wd mI::b9::(be e++dC (pad deep) (bN (deep+1) b)))from .tok (g7 aC) rfl rfl (.b aC ((l2 i).1.app B (TK _ _))) λr _=>gy _ _))
 |lh=>
  intro deep;rw[dX];exact .b (jh _) (cr.line (show cr (wd jF::[bp [59]])from .tok (g7 aC) rfl rfl nf na))
 | @li d p e i=>
  intro deep;rw[dX];exact .b (jh _) (cr.line (show cr (wd jF::b9::(be e++[bp [59]]))from .tok (g7 aC) rfl rfl (.b aC ((l2 i).1.app nf na)) λr _=>gy _ _))
 | @print d p e i=>
  intro deep;rw[dX];exact .b (jh _) (cr.line (show cr (wd mG::b9::(be e++[bp [59]]))from .tok (g7 aC) rfl rfl (.b aC ((l2 i).1.app nf na)) λr _=>gy _ _))
 | @call d p e o i=>
  intro deep;rw[dX];exact .b (jh _) (cr.line (show cr (be e++[bp [59]])from(l2 i).1.app nf na))
def Lu:∀l:List bq,(∀p∈l,fd p)->a (ik l)
 |[],_=> .nil
 |p::r,h=>by
  have c:=h p (kl);have e:=Lu r λx d=>h x (ij _ d)
  rw[ik];exact .b aC ((rf c.n c.o).apps (.bp C9 (.b aC e)) λr=>hh Bz _ _)
def Lv:∀l:List bq,(∀p∈l,fd p)->cr (jy l)/\mM (jy l)
 |[],_=>⟨.nil,.nil⟩
 |p::r,h=>by
  have a:=h p (kl);have c:=Lv r λx d=>h x (ij _ d)
  rw[jy];exact⟨.bp MK (.b aC ((rf a.n a.o).app c.1 c.2)),λr _=>hh KE _ _⟩
def Up:∀l:List bq,(∀p∈l,fd p)->cr (hk l)
 |[],_=> .nil
 |p::r,h=>by
  have a:=h p (kl);have c:=Lv r λx d=>h x (ij _ d)
  rw[hk];exact(rf a.n a.o).app c.1 c.2
def Uo{i:dO}(h:qj i):a (gS i):=by
 cases i with
 |r x=>
  refine a.tok (g7 aC) rfl rfl (.b aC (.tok (mA h.n) rfl rfl (.b aC (.bp MI (.b aC ((Lu _ h.f).app (.bp MJ (.b aC .nil)))))) λr=>gy _ _)) λr=>gy _ _
 |g x=>
  exact a.tok (g7 aC) rfl rfl (.b aC ((rf h.n h.o).apps (.bp C9 (.b aC .nil)) λr=>hh Bz _ _)) λr=>gy _ _
 |f x=>
  obtain⟨d,k,e⟩:=h.b;have B:=wj (d:=[]) aC (tG (d:=d) (deep:=1) x.body λs au=>Uq (e s au) _);have V:cr (bif x.has then bp [58]::b9::cR x.cm x.rd else[]):=by
   rcases h.r with⟨c,j⟩|⟨c,-⟩
   ·rw[c];exact .bp ML (.b aC (wk j))
   ·rw[c];exact .nil
  refine a.tok (g7 aC) rfl rfl (.b aC (.tok (mA h.n) rfl rfl (.bp sr ((Up _ h.p).apps (.bp ss (V.apps B.line λr=> ?_)) λr=>hh tv _ _)) λr=>hh vV _ _)) λr=>gy _ _
  rw[hi];exact gy _ _
def BW:∀l:List dO,(∀i∈l,qj i)->a (bZ l)
 |[],_=> .nil
 |i::l,h=>(Uo (h i (kl))).app (BW l λx c=>h x (ij _ c))
def BY:∀(a:List bQ) (p:Nat),h9 a->dj (o2 a p)=aL a++[⟨0,[],0,0⟩]
 |[],_,_=>rfl
 | .b s::r,p,h=>BY r (p+s.length) h
 | .t t::r,p,h=>by
  have d:=h t (by rw[aL];exact kl);have c:=BY r (p+(hL t).length) λi e=>h i (by rw[aL];exact ij _ e)
  rw[o2,aL];unfold dj at c ⊢;rw[List.map_cons,c];obtain⟨k,x,n,q⟩:=t;have:q=0:=d;subst this;rfl
def D9(l m:List Tok):∀(p:List Tok),bT (p++(l++m)) p.length l:=by
 induction l with
 |nil=>intro p;trivial
 |cons t l a=>
  intro p;refine⟨?_,?_⟩
  ·unfold G;rw[if_neg (by simp only[fg,ef];omega)];rw[show((p.length:Int)).toNat=p.length by omega,List.getElem?_append_right (aV _),Nat.sub_self];rfl
  ·have:=a (p++[t]);rw[hi,fg]at this;rw[show((p.length:Int)+1)=((p.length+[t].length:Nat):Int) by simp];exact this
def UJ{l:List dO}(p:∀i∈l,qj i)(aQ:(bw.none.fU l).bJ.length<=12)(c2:(bw.none.fU l).globals.length<=8)(c3:(bw.none.fU l).funcs.length<=16)(ak:(flat (bZ l)).length<=6000)(j:g_ (dj (c7 (flat (bZ l))).1)){q:bw×am}(m:ek (c7 (flat (bZ l))).1 800000000 800000000 .none ⟨0,0,0,0⟩=I q):
  (c7 (flat (bZ l))).2.1=0/\q.2.an=0/\q.1.aN=(bw.none.fU l).aN:=by
 have o:=BW l p;have n:iu (bZ l):=by have:=o.k [] trivial;rwa[pq]at this
 have aq:=NQ n ak;rw[aq]at m j ⊢;simp only at m j ⊢;have e:=BY (bZ l) 0 o.z;have len:=za (bZ l) n;rw[e]at j;have T1:=D9 (aL (bZ l)) [⟨0,[],0,0⟩] [];simp only[AB,de]at T1;have T2:(G (aL (bZ l)++[⟨0,[],0,0⟩]) ((0:Int)+((aL (bZ l)).length:Int))).kind=0:=by
  have:=D9 [⟨0,[],0,0⟩] [] (aL (bZ l));rw[pq]at this;rw[Int.zero_add,this.1]
 obtain⟨K,h⟩:=LF j l .none 0 p aQ c2 c3 ae T1 T2 ae;have a:=LC (o2 (bZ l) 0) 800000000 800000000 .none ⟨0,0,0,0⟩;rw[m,e]at a;have b:∀k,ek (aL (bZ l)++[⟨0,[],0,0⟩]) (800000000+k) (800000000+k) bw.none.aN (am.aN ⟨0,0,0,0⟩)=fh bw.aN (I q):=by
  intro k
  induction k with
  |zero=>exact a
  |succ k s=>exact qZ _ _ _ _ _ s
 have c:=h (800000000+K) (800000000+K) ae ae;have d:=b K;rw[show(am.aN ⟨0,0,0,0⟩)=st 0 0 from rfl,c]at d;simp only[fh,Option.map_some,aT,bS]at d;refine⟨trivial,?_,d.1.symm⟩;have:=congrArg am.an d.2;exact this.symm
def mE(l:List Fn):Nat:=(l.map λf=>dN f.body).sum
def abS(l:List Fn)(f:Fn):mE (l++[f])=mE l+dN f.body:=by simp[mE]
structure DU(a:Int)(g:bw):Prop where
 lk:∀x∈g.bJ,lL x
 fM:∀x∈g.globals,fd x
 eb:∀x∈g.funcs,mT x
 fF:g.bJ.length<=12
 jv:g.globals.length<=8
 lV:g.funcs.length<=16
 w:(mE g.funcs:Int)<=400*a
section
variable {T:List Tok}{E:Int}{s s' s2:am}
def BS(ar:Good T E)(e:cP E s)(h:(cO T s).2.an=0):fd (cO T s).1/\m E s (cO T s).2 1:=by
 obtain⟨a,c,d⟩:=DF ar e h;exact⟨⟨a,c⟩,d.less ae⟩
def sT{c:Type}{p:c->Prop}{l:List c}{x:c}(h:∀y∈l,p y)(d:p x):∀y∈l++[x],p y:=by
 intro y a;rcases IJ.1 a with a|a
 ·exact h y a
 ·simp only[CD,xy,or_false]at a;subst a;exact d
def Hw(ar:Good T E):∀(n:Nat) (l:List bq) (s:am) (p:List bq×am),cP E s->(s.an=0->l.length<=8/\∀x∈l,fd x)->gg T n l s=I p->p.2.an=0->m E s p.2 0/\p.1.length<=8/\∀x∈p.1,fd x
 |0,_,_,_,_,_,h,_=>by cases h
 |n+1,l,s,p,d,v,h,e=>by
  rw[gg]at h;cases i:(s.an==0&& !aS T s [125])with
  |false=>
   rw[i,aH]at h;cases h;exact⟨.refl (d e) e,v e⟩
  |true=>
   rw[i,aK]at h;simp only[tu,beq_iff_eq]at i;obtain⟨ap,aE⟩:=v i.1;cases j:((G T s.at_).kind==1&&l.length==8)with
   |true=>
    rw[j,aK]at h;cases h;exact absurd e (ej aC)
   |false=>
    rw[j,aH]at h;have q:=λa=>BS ar d a
    have w:cP E (cO T s).2:=m.to d (λc=>(q c).2) ae;have t1:=λa=>fo ar (x:=[59]) w a
    have B:cP E (bg T [59] (cO T s).2):=m.to w (λc=>(t1 c).2.2) ae;obtain⟨aX,C,F⟩:=Hw ar n _ _ p B (λa=>by
     obtain⟨-,-,eC⟩:=t1 a;obtain⟨H,K⟩:=q eC.f;have A:(G T s.at_).kind=1:=by
      have k:(bv T s).2.an=0:=by
       have y:(cT T s).2.an=0:=eC.f;have bf:=λa=>la ar d a
       have bo:=λa=>fo ar (s:=(bv T s).2) (x:=[58]) (m.to d (λc=>(bf c).2) ae) a
       have b3:=nc ar (s:=bg T [58] (bv T s).2) (m.to d (λc=>(bf (bo c).2.2.f).2.trans (bo c).2.2) ae) y;exact(bo b3.2.f).2.2.f
      unfold bv at k;cases o:(s.an==0&&(G T s.at_).kind==1)with
      |true=>simp only[tu,beq_iff_eq]at o;exact o.2
      |false=>rw[o,aH]at k;exact absurd k (ej aC)
     have ak:l.length≠8:=by
      intro z;rw[A,z]at j;simp at j
     exact⟨by rw[fg,uv];omega,sT aE H⟩) h e
    obtain⟨-,-,eC⟩:=t1 aX.f;exact⟨(((q eC.f).2.trans eC).trans aX).less ae,C,F⟩
def QN(ar:Good T E)(c:cP E s)(h:(hz T s).an=0):m E s (hz T s) 1:=by
 unfold hz at h ⊢;cases a:aS T (bg T [44] s) [41]with
 |true=>rw[a,aK]at h;exact absurd h (ej aC)
 |false=>rw[a,aH]at h;rw[aH];exact(fo ar c h).2.2
def Lm(ar:Good T E):∀(n:Nat) (l:List bq) (s:am) (p:List bq×am),cP E s->(s.an=0->l.length<=6/\∀x∈l,fd x)->eV T n l s=I p->p.2.an=0->m E s p.2 0/\p.1.length<=6/\∀x∈p.1,fd x
 |0,_,_,_,_,_,h,_=>by cases h
 |n+1,l,s,p,c,w,h,i=>by
  rw[eV]at h;cases j:(s.an==0&& !aS T s [41])with
  |false=>
   rw[j,aH]at h;cases h;exact⟨.refl (c i) i,w i⟩
  |true=>
   rw[j,aK]at h;simp only[tu,beq_iff_eq]at j;obtain⟨ap,aE⟩:=w j.1;cases k:((G T s.at_).kind==1&&l.length==6)with
   |true=>
    rw[k,aK]at h;cases h;exact absurd i (ej aC)
   |false=>
    rw[k,aH]at h;have v:=λa=>BS ar c a
    have q:cP E (cO T s).2:=m.to c (λe=>(v e).2) ae;have aQ:∀a:(bif aS T (cO T s).2 [41]then(cO T s).2 else hz T (cO T s).2).an=0,m E (cO T s).2 (bif aS T (cO T s).2 [41]then(cO T s).2 else hz T (cO T s).2) 0:=by
     intro a;cases d:aS T (cO T s).2 [41]with
     |true=>rw[d,aK]at a;rw[aK];exact .refl (q a) a
     |false=>rw[d,aH]at a;rw[aH];exact(QN ar q a).less ae
    have B:cP E (bif aS T (cO T s).2 [41]then(cO T s).2 else hz T (cO T s).2):=m.to q aQ ae;obtain⟨aX,C,F⟩:=Lm ar n _ _ p B (λa=>by
     have eC:=aQ a;obtain⟨H,K⟩:=v eC.f;have A:(G T s.at_).kind=1:=by
      have o:(bv T s).2.an=0:=by
       have y:(cT T s).2.an=0:=eC.f;have bf:=λa=>la ar c a
       have bo:=λa=>fo ar (s:=(bv T s).2) (x:=[58]) (m.to c (λe=>(bf e).2) ae) a
       have b3:=nc ar (s:=bg T [58] (bv T s).2) (m.to c (λe=>(bf (bo e).2.2.f).2.trans (bo e).2.2) ae) y;exact(bo b3.2.f).2.2.f
      unfold bv at o;cases d:(s.an==0&&(G T s.at_).kind==1)with
      |true=>simp only[tu,beq_iff_eq]at d;exact d.2
      |false=>rw[d,aH]at o;exact absurd o (ej aC)
     have ak:l.length≠6:=by
      intro z;rw[A,z]at k;simp at k
     exact⟨by rw[fg,uv];omega,sT aE H⟩) h i
    have eC:=aQ aX.f;exact⟨(((v eC.f).2.trans eC).trans aX).less ae,C,F⟩
def UQ(ar:Good T E){n:Nat}{p:dB×am}(d:cP E s)(h:hI T n s=I p)(l:p.2.an=0):m E s p.2 1/\lL p.1:=by
 unfold hI at h;obtain⟨q,j,k⟩:=gr h;cases k;have i:=λa=>la ar d a
 have e:cP E (bv T s).2:=m.to d (λc=>(i c).2) ae;have t1:=λa=>fo ar (x:=[123]) e a
 have i2:cP E (bg T [123] (bv T s).2):=m.to e (λc=>(t1 c).2.2) ae;have f1:=λa=>Hw ar n [] _ q i2 (λ_=>⟨by simp,λx o=>by cases o⟩) j a
 have i3:cP E q.2:=m.to i2 (λc=>(f1 c).1) ae;obtain⟨-,-,z⟩:=fo ar (x:=[125]) i3 l;obtain⟨aI,a2,a3⟩:=f1 z.f;obtain⟨-,-,bf⟩:=t1 aI.f;obtain⟨aQ,c2⟩:=i bf.f;exact⟨((((c2.trans bf).trans aI).trans z)).less ae,⟨aQ,a2,a3⟩⟩
def UY(ar:Good T E)(d:cP E s)(h:(eW T s).2.an=0):m E s (eW T s).2 0/\(((eW T s).1.1=Y/\hb (eW T s).1.2.1 (eW T s).1.2.2)\/((eW T s).1.1=X/\(eW T s).1.2.1=[]/\(eW T s).1.2.2=0)):=by
 unfold eW at h ⊢;cases c:aS T s [58]with
 |true=>
  rw[c,aK]at h;rw[aK];have g:=gw ar (d (eU c).1) c;obtain⟨a,b⟩:=nc ar (g.gK d ae) h;exact⟨(g.trans b).less ae,.inl ⟨rfl,a⟩⟩
 |false=>
  rw[c,aH]at h;rw[aH];exact⟨.refl (d h) h,.inr ⟨rfl,rfl,rfl⟩⟩
def RY(ar:Good T E)(G:g_ T){n:Nat}{p:Fn×am}(o:cP E s)(h:hB T n s=I p)(H:p.2.an=0):m E s p.2 1/\mT p.1/\(dN p.1.body:Int)<=400*(p.2.at_-s.at_):=by
 unfold hB at h;obtain⟨q,A,B⟩:=gr h;obtain⟨b,C,F⟩:=gr B;cases F;have w:=λe=>la ar o e
 have v:cP E (bv T s).2:=m.to o (λi=>(w i).2) ae;have t1:=λe=>fo ar (x:=[40]) v e
 have i2:cP E (bg T [40] (bv T s).2):=m.to v (λi=>(t1 i).2.2) ae;have f1:=λe=>Lm ar n [] _ q i2 (λ_=>⟨by simp,λx K=>by cases K⟩) A e
 have i3:cP E q.2:=m.to i2 (λi=>(f1 i).1) ae;have t2:=λe=>fo ar (x:=[41]) i3 e
 have i4:cP E (bg T [41] q.2):=m.to i3 (λi=>(t2 i).2.2) ae;have z:=λe=>UY ar i4 e
 have i5:cP E (eW T (bg T [41] q.2)).2:=m.to i4 (λi=>(z i).1) ae;obtain⟨j,O,d,P,L⟩:=(wq ar G n).block _ b i5 C H;obtain⟨l,M⟩:=z j.f;obtain⟨-,-,k⟩:=t2 l.f;obtain⟨aI,a2,a3⟩:=f1 k.f;obtain⟨-,-,bf⟩:=t1 aI.f;obtain⟨aQ,c2⟩:=w bf.f;have N:=(i5 j.f).c;have y:=c2.a;have Q:=bf.a;have R:=aI.a;have S:=k.a;have V:=l.a;exact⟨(((((c2.trans bf).trans aI).trans k).trans l).trans j).less ae,⟨aQ,a2,a3,M,d,ae,L⟩,by simp only;omega⟩
def rj(ar:Good T E)(y:g_ T)(N:Nat):∀(n:Nat) (g:bw) (s:am) (p:bw×am),cP E s->(s.an=0->DU s.at_ g)->ek T N n g s=I p->p.2.an=0->DU p.2.at_ p.1/\p.2.at_<=E
 |0,_,_,_,_,_,h,_=>by cases h
 |n+1,g,s,p,j,K,h,o=>by
  rw[ek]at h;cases l:(s.an==0&&(G T s.at_).kind != 0)with
  |false=>
   rw[l,aH]at h;cases h;exact⟨K o,(j o).b⟩
  |true=>
   rw[l,aK]at h;simp only[tu,beq_iff_eq]at l;have d:=K l.1;cases A:((isRec T s&&g.bJ.length==12)||((hV T s&&g.globals.length==8)||(isFun T s&&g.funcs.length==16)))with
   |true=>
    rw[A,aK]at h;exact rj ar y N n g _ p (λe=>absurd e (ej aC)) (λe=>absurd e (ej aC)) h o
   |false=>
    rw[A,aH]at h;simp only[BC]at A;cases aQ:isRec T s with
    |true=>
     rw[aQ,aK]at h;obtain⟨q,C,F⟩:=gr h;have i:=gw ar (j l.1) aQ;have k:=λe=>UQ ar (i.gK j ae) C e
     have H:=i.a;have O:g.bJ.length≠12:=by
      intro B;have:=A.1;rw[aQ,B]at this;simp at this
     have:=d.fF;refine rj ar y N n _ q.2 p (m.to (i.gK j ae) (λv=>(k v).1) ae) (λe=> ?_) F o;obtain⟨a,b⟩:=k e;have:=a.a;have:=d.w;exact⟨sT d.lk b,d.fM,d.eb,by rw[fg,uv];omega,d.jv,d.lV,by simp only;omega⟩
    |false=>
     rw[aQ,aH]at h;cases c2:hV T s with
     |true=>
      rw[c2,aK]at h;have i:=gw ar (j l.1) c2;have H:=i.a;have L:=i.gK j ae;have k:=λe=>BS ar L e
      have M:cP E (cO T (ao s)).2:=m.to L (λv=>(k v).2) ae;have t1:=λe=>fo ar (x:=[59]) M e
      have Q:g.globals.length≠8:=by
       intro B;have:=A.2.1;rw[c2,B]at this;simp at this
      have:=d.jv;refine rj ar y N n _ _ p (m.to M (λv=>(t1 v).2.2) ae) (λe=> ?_) h o;obtain⟨-,-,z⟩:=t1 e;obtain⟨a,b⟩:=k z.f;have:=z.a;have:=b.a;have:=d.w;exact⟨d.lk,sT d.fM a,d.eb,d.fF,by rw[fg,uv];omega,d.lV,by simp only;omega⟩
     |false=>
      rw[c2,aH]at h;cases c3:isFun T s with
      |true=>
       rw[c3,aK]at h;obtain⟨q,C,F⟩:=gr h;have i:=gw ar (j l.1) c3;have k:=λe=>RY ar y (i.gK j ae) C e
       have H:=i.a;have P:g.funcs.length≠16:=by
        intro B;have:=A.2.2;rw[c3,B]at this;simp at this
       have:=d.lV;refine rj ar y N n _ q.2 p (m.to (i.gK j ae) (λv=>(k v).1) ae) (λe=> ?_) F o;obtain⟨a,b,c⟩:=k e;have:=a.a;have:=d.w;exact⟨d.lk,d.fM,sT d.eb b,d.fF,d.jv,by rw[fg,uv];omega,by simp only;rw[abS];omega⟩
      |false=>
       rw[c3,aH]at h;exact rj ar y N n g _ p (λe=>absurd e (ej aC)) (λe=>absurd e (ej aC)) h o
end
def dW(x:ay)(r:List bQ):(flat (bp x::r)).length=x.length+(flat r).length:=by rw[flat,fg];rfl
def iT(x:ay)(r:List bQ):(flat (wd x::r)).length=x.length+(flat r).length:=by rw[flat,fg];rfl
def oL(x:ay)(r:List bQ):(flat (nm x::r)).length=x.length+(flat r).length:=by rw[flat,fg];rfl
def iS(x:ay)(r:List bQ):(flat (.b x::r)).length=x.length+(flat r).length:=by rw[flat,fg];rfl
def fN(r:List bQ):(flat (b9::r)).length=1+(flat r).length:=iS [32] r
def jX(r:List bQ):(flat (nl::r)).length=1+(flat r).length:=iS [10] r
def dr(a b:List bQ):(flat (a++b)).length=(flat a).length+(flat b).length:=by rw[ec,fg]
def fw:(flat []).length=0:=rfl
def Bl(x:ay):∀n,(flat (rep n (bp x))).length=n*x.length
 |0=>by simp[rep,flat]
 |n+1=>by have:=Bl x n;unfold rep at this ⊢;rw[rs,dW,this,Nat.succ_mul];omega
def lU(x:ay)(z:Int):(flat (cR x z)).length=2*z.toNat+x.length:=by
 have e:(flat (qa x::rep z.toNat (bp [93]))).length=x.length+(flat (rep z.toNat (bp [93]))).length:=by
  unfold qa;cases fB x
  ·exact oL _ _
  ·exact iT _ _
 unfold cR;rw[dr,e,Bl,Bl];simp only[ef,de];omega
def JE{k:Int}(h:14<=k)(aU:k<=24):(gB k).length<=2:=by
 have a:k=14\/k=15\/k=16\/k=17\/k=18\/k=19\/k=20\/k=21\/k=22\/k=23\/k=24:=ae;rcases a with rfl|rfl|rfl|rfl|rfl|rfl|rfl|rfl|rfl|rfl|rfl<;>decide
def tg(m:Nat)(e:az):(flat (cC m e)).length<=(flat (be e)).length+2:=by
 by_cases h:e.aM<m
 ·rw[q6 h,dW,dr,dW,fw];simp only[ef,de];omega
 ·rw[l1 h];omega
def Jx:∀l:List az,(∀e∈l,(flat (be e)).length+4<=du e)->(flat (fG (di l))).length<=ch l
 |[],_=>by simp[di,fG,flat,ch]
 |[e],h=>by rw[oY];have:=h e (by simp);simp only[fG,ch];omega
 |e::f::r,h=>by
  have i:=h e (by simp);have c:=Jx (f::r) λx d=>h x (ij _ d)
  rw[di]at c;rw[di,di,fG,dr,dW,fN,ch]
  ·simp only[ef,de];omega
  ·intro a;cases a
def S3{n p:Int}:(flat [.t ⟨2,[],n,p⟩]).length<=20:=by
 have:=FZ 20 n.toNat [];simpa [flat,bQ.sB,hL]using this
def vL{d m:Nat}{e:az}(h:cx d m e):(flat (be e)).length+4<=du e:=by
 induction h with
 |par _ _ _ c=>exact c
 | @int d m n p _ _ _=>
  rw[eP,du,ch];have:(flat (lf {kind:=1,n:=n,pos:=p} (di []))).length<=20:=S3 (p:=0);simp only[de];omega
 | @bool d m n p _ h=>
  rw[eP,du,ch];have:(flat (lf {kind:=2,n:=n,pos:=p} (di []))).length<=5:=by
   rcases h with rfl|rfl
   ·exact aV 5
   ·exact(by decide:4<=5)
  simp only[de];omega
 | @null d m x z p _ h=>
  rw[eP,du,ch];have:(flat (lf {kind:=3,b5:=x,ci:=z,pos:=p} (di []))).length=5+(2*z.toNat+x.length):=by
   show(flat (wd [110,117,108,108]::b9::cR x z)).length=_;rw[iT,fN,lU];simp only[ef,de];omega
  have:=h.2.1;simp only[de];omega
 | @var d m x p _ h=>
  rw[eP,du,ch];have:(flat (lf {kind:=4,name:=x,pos:=p} (di []))).length=x.length:=by
   show(flat [nm x]).length=_;rw[oL,fw];omega
  simp only[de];omega
 | @field d m x p e _ _ _ c=>
  rw[q9,du,ch,ch,dr,dW,oL,fw];have:=tg 7 e;simp only[ef,de];omega
 | @item d m p e i _ _ _ ih1 ih2=>
  rw[q_,du,ch,ch,ch,dr,dW,dr,dW,fw];have:=tg 7 e;simp only[ef,de];omega
 | @call d m x p l _ _ _ c=>
  rw[q8,du,oL,dW,dr,dW,fw];have:=Jx l c;simp only[ef,de];omega
 | @new d m x p _ _=>
  rw[eP,du,ch];have:(flat (lf {kind:=8,b5:=x,pos:=p} (di []))).length=4+x.length:=by
   show(flat [wd [110,101,119],b9,nm x]).length=_;rw[iT,fN,oL,fw];simp only[ef,de];omega
  simp only[de];omega
 | @make d m x z p e _ h _ c=>
  rw[rb,du,ch,ch,iT,fN,dW,dr,lU,dW,dW,dr,dW,fw];have:=h.2.1;simp only[ef,de];omega
 | @len d m p e _ _ c=>
  rw[ra,du,ch,ch,iT,dW,dr,dW,fw];simp only[ef,de];omega
 | @read d m p _=>
  rw[eP,du,ch];have:(flat (lf {kind:=11,pos:=p} (di []))).length=6:=rfl;simp only[de];omega
 | @sign d m k p e _ h _ c=>
  rw[oZ h,du,ch,ch,dW];have:=tg 6 e;have:(bif k==12 then[45]else[33]:ay).length=1:=by cases k==12<;>rfl
  simp only[de];omega
 | @bin d m k p a b _ j o _ _ ih1 ih2=>
  rw[q7 j,du,ch,ch,ch,dr,fN,dW,fN];have:=tg (cW k) a;have:=tg (cW k+1) b;have:=JE j o;simp only[de];omega
def JF:∀l:List az,40*l.length<=ch l
 |[]=>by simp[ch]
 | .mk a ks::r=>by have:=JF r;rw[ch,du,ef];omega
def hD{d:Nat}{e:az}(h:cx d 0 e):(flat (be e)).length<=du e:=by have:=vL h;omega
def iD(deep:Nat):(pad deep).length=2*deep:=by unfold pad;rw[List.length_replicate]
def Bm(x o:ay)(z:Int):(flat (eK x o z)).length=x.length+2+(2*z.toNat+o.length):=by
 unfold eK;rw[oL,dW,fN,lU];simp only[ef,de];omega
def Bh(d:ay)(B:List bQ):(flat (dC d B)).length=4+(flat B).length+d.length:=by
 unfold dC;rw[fN,dW,jX,dr,iS,dW,fw];simp only[ef,de];omega
def ti{deep:Nat}:∀l:List a6,(∀s∈l,(flat (dX deep s)).length<=e7 s)->(flat (bN deep l)).length<=dN l
 |[],_=>by simp[bN,flat,dN]
 |s::r,h=>by
  have c:=h s (by simp);have d:=ti r λx a=>h x (ij _ a)
  rw[bN,dr,dN];omega
def JD{d:Nat}{s:a6}(h:en d s):∀deep,deep+d<=51->(flat (dX deep s)).length<=e7 s:=by
 induction h with
 | @var d x o z p n k=>
  intro deep i;rw[dX,iS,dr,jX,iD,fw,e7,ch];have:=k.2.1;have:(flat (fO {kind:=1,name:=x,b5:=o,ci:=z,pos:=p} [] (bN (deep+1) []) ([]:List a6).isEmpty (bN (deep+1) []) (pad deep))).length=4+(x.length+2+(2*z.toNat+o.length))+1:=by
   show(flat (wd mH::b9::(eK x o z++[bp [59]]))).length=_;rw[iT,fN,dr,Bm,dW,fw];simp only[ef,de,mH];omega
  simp only[];omega
 | @lets d x o z p e n k a=>
  intro deep i;rw[dX,iS,dr,jX,iD,fw,e7,ch,ch];have:=k.2.1;have j:=hD a;have:(flat (fO {kind:=2,name:=x,b5:=o,ci:=z,pos:=p} [e] (bN (deep+1) []) ([]:List a6).isEmpty (bN (deep+1) []) (pad deep))).length=4+(x.length+2+(2*z.toNat+o.length))+3+(flat (be e)).length+1:=by
   show(flat (wd mF::b9::(eK x o z++b9::bp [61]::b9::(be e++[bp [59]])))).length=_;rw[iT,fN,dr,Bm,fN,dW,fN,dr,dW,fw];simp only[ef,de,mF];omega
  simp only[];omega
 | @set d x p e n a=>
  intro deep i;rw[dX,iS,dr,jX,iD,fw,e7,ch,ch];have j:=hD a;have:(flat (fO {kind:=3,name:=x,pos:=p} [e] (bN (deep+1) []) ([]:List a6).isEmpty (bN (deep+1) []) (pad deep))).length=x.length+3+(flat (be e)).length+1:=by
   show(flat (nm x::b9::bp [61]::b9::(be e++[bp [59]]))).length=_;rw[oL,fN,dW,fN,dr,dW,fw];simp only[ef,de];omega
  simp only[de];omega
 | @put d p e f w a m=>
  intro deep i;rw[dX,iS,dr,jX,iD,fw,e7,ch,ch,ch];have j:=hD a;have m:=hD m;have:(flat (fO {kind:=4,pos:=p} [e,f] (bN (deep+1) []) ([]:List a6).isEmpty (bN (deep+1) []) (pad deep))).length=(flat (be e)).length+3+(flat (be f)).length+1:=by
   show(flat (be e++b9::bp [61]::b9::(be f++[bp [59]]))).length=_;rw[dr,fN,dW,fN,dr,dW,fw];simp only[ef,de];omega
  simp only[de];omega
 | @ifs d p e b c a v B l y=>
  intro deep i;rw[dX,iS,dr,jX,iD,fw,e7,ch,ch];have j:=hD a;have q:=ti b (λs au=>l s au (deep+1) ae);have A:=ti c (λs au=>y s au (deep+1) ae);have:(flat (fO {kind:=5,pos:=p} [e] (bN (deep+1) b) c.isEmpty (bN (deep+1) c) (pad deep))).length<=3+(flat (be e)).length+(4+(flat (bN (deep+1) b)).length+2*deep)+(5+(4+(flat (bN (deep+1) c)).length+2*deep)):=by
   show(flat (wd j6::b9::(be e++(dC (pad deep) (bN (deep+1) b)++bif c.isEmpty then[]else b9::wd kL::dC (pad deep) (bN (deep+1) c))))).length<=_;rw[iT,fN,dr,dr,Bh,iD];cases c.isEmpty
   ·rw[aH,fN,iT,Bh,iD];simp only[ef,de,j6,kL];omega
   ·rw[aK,fw];simp only[ef,de,j6];omega
  simp only[de];omega
 | @«while» d p e b a v l=>
  intro deep i;rw[dX,iS,dr,jX,iD,fw,e7,ch,ch];have j:=hD a;have q:=ti b (λs au=>l s au (deep+1) ae);have:(flat (fO {kind:=6,pos:=p} [e] (bN (deep+1) b) ([]:List a6).isEmpty (bN (deep+1) []) (pad deep))).length=6+(flat (be e)).length+(4+(flat (bN (deep+1) b)).length+2*deep):=by
   show(flat (wd mI::b9::(be e++dC (pad deep) (bN (deep+1) b)))).length=_;rw[iT,fN,dr,Bh,iD];simp only[ef,de,mI];omega
  simp only[de];omega
 | @lh d p=>
  intro deep i;rw[dX,iS,dr,jX,iD,fw,e7,ch];have:(flat (fO {kind:=7,pos:=p} [] (bN (deep+1) []) ([]:List a6).isEmpty (bN (deep+1) []) (pad deep))).length=7:=rfl;simp only[de];omega
 | @li d p e a=>
  intro deep i;rw[dX,iS,dr,jX,iD,fw,e7,ch,ch];have j:=hD a;have:(flat (fO {kind:=7,pos:=p} [e] (bN (deep+1) []) ([]:List a6).isEmpty (bN (deep+1) []) (pad deep))).length=7+(flat (be e)).length+1:=by
   show(flat (wd jF::b9::(be e++[bp [59]]))).length=_;rw[iT,fN,dr,dW,fw];simp only[ef,de,jF];omega
  simp only[de];omega
 | @print d p e a=>
  intro deep i;rw[dX,iS,dr,jX,iD,fw,e7,ch,ch];have j:=hD a;have:(flat (fO {kind:=8,pos:=p} [e] (bN (deep+1) []) ([]:List a6).isEmpty (bN (deep+1) []) (pad deep))).length=6+(flat (be e)).length+1:=by
   show(flat (wd mG::b9::(be e++[bp [59]]))).length=_;rw[iT,fN,dr,dW,fw];simp only[ef,de,mG];omega
  simp only[de];omega
 | @call d p e w a=>
  intro deep i;rw[dX,iS,dr,jX,iD,fw,e7,ch,ch];have j:=hD a;have:(flat (fO {kind:=9,pos:=p} [e] (bN (deep+1) []) ([]:List a6).isEmpty (bN (deep+1) []) (pad deep))).length=(flat (be e)).length+1:=by
   show(flat (be e++[bp [59]])).length=_;rw[dr,dW,fw];simp only[ef,de]
  simp only[de];omega
section
set_option maxRecDepth 100000
noncomputable section
def nZ(h:e)(N:Nat)(F a:aa)(H:ad):O:=C (w P .lss 3 Y F (J U 0)) λc=>aO (I c) (C (w P .add 9 Y (Z [45]) a) λd=>I (d,H)) (I (a,H))
def Z7(a:e)(N:Nat):∀V H,a7 P a N (L (L (L (L (n Tryz.f87))))) (p Tryz.f87) [] (p Tryz.f87) V H=nZ a N (V 0) (V 3) H:=by
 refine bm (q _) λV H=> ?_
 delta nZ;kernel_rfl
def p1(i:e)(N:Nat)(a:aa->aa->aa->ad->O)(F d h:aa)(H:ad):O:=C (w P .quo 3 Y h (J U 10)) λc=>a F d c H
def Z8(a:e)(N:Nat)(c:aa->aa->aa->ad->O):∀V H,a7 P a N (L (L (d (d (L (d (L (L (L (n Tryz.f87)))))))))) (λV H=>c (V 0) (V 3) (V 4) H) [(0,(λV H=>nZ a N (V 0) (V 3) H))] (p Tryz.f87) V H=p1 a N c (V 0) (V 3) (V 4) H:=by
 refine bm (q _) λV H=> ?_
 delta p1;kernel_rfl
def si(c:e)(N:Nat)(d:aa->aa->aa->ad->O)(F m:aa)(n o:aa)(H:ad):O:=C (w P .add 3 Y (J U 48) o) λh=>sG P 3 5 h H λi=>bO H (b0 P (H).next 81 1 [(0,i)]) λj a=>sG P 81 9 j a λk=>C (w P .add 9 X k m) λl=>p1 c N d F l n a
def Z9(a:e)(N:Nat)(c:aa->aa->aa->ad->O):∀V H,a7 P a N (L (L (d (d (L (d (d (L (d (L (L (L (n Tryz.f87))))))))))))) (λV H=>p1 a N c (V 0) (V 3) (V 4) H) [(1,(λV H=>p1 a N c (V 0) (V 3) (V 4) H)),(0,(λV H=>nZ a N (V 0) (V 3) H))] (p Tryz.f87) V H=si a N c (V 0) (V 3) (V 4) (V 5) H:=by
 refine bm (q _) λV H=> ?_
 delta si;generalize p1 a N c=h;revert h;refine id ?_;intro h;kernel_rfl
def uL(c:e)(N:Nat)(i:aa->aa->aa->ad->O)(F h a:aa)(H:ad):O:=C (w P .neq 3 Y a (J U 0)) λj=>aO (I j) (C (w P .rem 3 Y a (J U 10)) λd=>C (w P .lss 3 Y d (J U 0)) λk=>aO (I k) (C (w P .sub 3 Y (J U 0) d) λl=>si c N i F h a l H) (si c N i F h a d H)) (nZ c N F h H)
def n0(a:e)(N:Nat):Nat->aa->aa->aa->ad->O
 |0,_,_,_,_=>u
 |n+1,F,c,d,H=>uL a N (n0 a N n) F c d H
def Z6(a:e)(N:Nat)(c:aa->aa->aa->ad->O):∀V H,a7 P a N (d (d (L (d (L (L (L (n Tryz.f87)))))))) (λV H=>c (V 0) (V 3) (V 4) H) [(0,(λV H=>nZ a N (V 0) (V 3) H))] (p Tryz.f87) V H=uL a N c (V 0) (V 3) (V 4) H:=by
 refine bm ((Q M ((Q M (Z8 a N c) ((cn M ((Q M ((Q M (Z9 a N c) (q _))) (q _))))))) (q _))) λV H=> ?_
 delta uL;generalize nZ a N=h;generalize si a N c=i;revert h i;refine id ?_;intro h i;kernel_rfl
def yU(a:e)(N:Nat)(F:aa)(H:ad):O:=C (w P .eql 3 Y F (J U 0)) λc=>aO (I c) (I ((Z [48]),H)) (n0 a N N F (Z []) F H)
def Xu(N:Nat){F:aa}{H:ad}{r:aa×ad}(h:yU (al P aj) N F H=I r):al P aj 87 [F] H=I r:=bu N (S:=λa=>yU a N F H) Tryz.func87 (λa=>cG ((Q M ((Q M ((Q M ((Q M (Z7 a N) ((Q M ((cn M ((cY (k:=λm V H=>n0 a N m (V 0) (V 3) (V 4) H) M (λV H=>M) (λm=>Z6 a N (n0 a N m)))))) (q _))))) (q _))) (q _))) (q _))) (by delta yU;generalize n0 a N N=c;revert c;refine id ?_;intro c;kernel_rfl)) h
def jD(a:e)(H:ad):O:=some ((J U 7),H)
def Z_(a:e)(N:Nat):∀V H,a7 P a N (L (L (n Tryz.f89))) (p Tryz.f89) [] (p Tryz.f89) V H=jD a H:=by
 refine bm (q _) λV H=> ?_
 delta jD;kernel_rfl
def sk(a:e)(c:aa)(H:ad):O:=aO (I c) (I ((J U 6),H)) (jD a H)
def aad(a:e)(N:Nat):∀V H,a7 P a N (L (L (L (L (L (L (L (L (L (L (L (d (L (d (L (n Tryz.f89)))))))))))))))) (λV H=>jD a H) [(0,(λV H=>jD a H))] (p Tryz.f89) V H=sk a (V 21) H:=by
 refine bm (q _) λV H=> ?_
 delta sk;generalize jD a=c;revert c;refine id ?_;intro c;kernel_rfl
def p2(a:e)(d h:aa)(H:ad):O:=aO (I h) (I ((J U 5),H)) (C (w P .eql 3 Y d (J U 12)) λc=>aO (I c) (sk a c H) (C (w P .eql 3 Y d (J U 13)) λi=>sk a i H))
def aac(a:e)(N:Nat):∀V H,a7 P a N (L (L (L (L (L (L (L (L (L (d (L (d (L (n Tryz.f89)))))))))))))) (λV H=>jD a H) [(0,(λV H=>jD a H))] (p Tryz.f89) V H=p2 a (V 4) (V 17) H:=by
 refine bm ((e6 M (q _) ((Q M (aad a N) (q _))))) λV H=> ?_
 delta p2;generalize sk a=c;revert c;refine id ?_;intro c;kernel_rfl
def sj(c:e)(a i:aa)(H:ad):O:=aO (I i) (I ((J U 4),H)) (C (w P .eql 3 Y a (J U 16)) λd=>aO (I d) (p2 c a d H) (C (w P .eql 3 Y a (J U 17)) λh=>aO (I h) (p2 c a h H) (C (w P .eql 3 Y a (J U 18)) λj=>p2 c a j H)))
def aab(a:e)(N:Nat):∀V H,a7 P a N (L (L (L (L (L (L (L (d (L (d (L (n Tryz.f89)))))))))))) (λV H=>jD a H) [(0,(λV H=>jD a H))] (p Tryz.f89) V H=sj a (V 4) (V 14) H:=by
 refine bm ((e6 M (q _) ((Q M (aac a N) (q _))))) λV H=> ?_
 delta sj;generalize p2 a=c;revert c;refine id ?_;intro c;kernel_rfl
def n1(c:e)(a i:aa)(H:ad):O:=aO (I i) (I ((J U 3),H)) (C (w P .eql 3 Y a (J U 14)) λd=>aO (I d) (sj c a d H) (C (w P .eql 3 Y a (J U 15)) λh=>sj c a h H))
def aaa(a:e)(N:Nat):∀V H,a7 P a N (L (L (L (L (L (d (L (d (L (n Tryz.f89)))))))))) (λV H=>jD a H) [(0,(λV H=>jD a H))] (p Tryz.f89) V H=n1 a (V 4) (V 9) H:=by
 refine bm ((e6 M (q _) ((Q M (aab a N) (q _))))) λV H=> ?_
 delta n1;generalize sj a=c;revert c;refine id ?_;intro c;kernel_rfl
def yW(d:e)(F:aa)(H:ad):O:=bO H (cg (H).next F) λy c=>C (j P 103 y 0) λm=>C (A P c 3 m) λa=>C (w P .eql 3 Y a (J U 24)) λaJ=>aO (I aJ) (I ((J U 1),c)) (C (w P .eql 3 Y a (J U 23)) λn=>aO (I n) (I ((J U 2),c)) (C (w P .eql 3 Y a (J U 19)) λh=>aO (I h) (n1 d a h c) (C (w P .eql 3 Y a (J U 20)) λi=>aO (I i) (n1 d a i c) (C (w P .eql 3 Y a (J U 21)) λk=>aO (I k) (n1 d a k c) (C (w P .eql 3 Y a (J U 22)) λl=>n1 d a l c)))))
def Xw(N:Nat){F:aa}{H:ad}{r:aa×ad}(h:yW (al P aj) F H=I r):al P aj 89 [F] H=I r:=bu N (S:=λa=>yW a F H) Tryz.func89 (λa=>cG ((Q M ((Q M (Z_ a N) ((Q M ((cn M ((Q M ((e6 M (q _) ((Q M ((e6 M (q _) ((Q M (aaa a N) (q _))))) (q _))))) (q _))))) (q _))))) (q _))) (by delta yW;generalize n1 a=c;revert c;refine id ?_;intro c;kernel_rfl)) h
def yY(j:e)(F:aa)(H:ad):O:=bO H (I (.ax (H).next 0 11 1 (I 11),.row X 1 [[Z [43]],[Z [45]],[Z [42]],[Z [47]],[Z [37]],[Z [60]],[Z [60,61]],[Z [61,61]],[Z [33,61]],[Z [38,38]],[Z [124,124]]])) λc a=>C (w P .sub 3 Y F (J U 14)) λd=>C (bX P 48 c d) λh=>C (A P a 9 h) λi=>I (i,a)
def Xy(N:Nat){F:aa}{H:ad}{r:aa×ad}(h:yY (al P aj) F H=I r):al P aj 90 [F] H=I r:=bu N (S:=λa=>yY a F H) Tryz.func90 (λ_=>by delta yY;kernel_rfl) h
def rU(c:e)(N:Nat)(a:aa)(H:ad):O:=some (a,H)
def Y_(a:e)(N:Nat):∀V H,a7 P a N (L (L (L (n Tryz.f38)))) (p Tryz.f38) [] (p Tryz.f38) V H=rU a N (V 3) H:=by
 refine bm (q _) λV H=> ?_
 delta rU;kernel_rfl
def uy(d:e)(N:Nat)(h:aa->aa->aa->ad->O)(y a c:aa)(H:ad):O:=C (j P 43 y 1) λn=>C (A P H 3 n) λo=>C (w P .lss 3 X c o) λi=>aO (I i) (C (w P .add 9 Y (Z [91]) a) λl=>C (w P .add 9 Y l (Z [93])) λm=>C (w P .add 3 Y c (J U 1)) λk=>h y m k H) (rU d N a H)
def nL(a:e)(N:Nat):Nat->aa->aa->aa->ad->O
 |0,_,_,_,_=>u
 |n+1,y,c,d,H=>uy a N (nL a N n) y c d H
def Y9(a:e)(N:Nat)(h:aa->aa->aa->ad->O):∀V H,a7 P a N (d (d (L (d (L (L (n Tryz.f38))))))) (λV H=>h (V 1) (V 3) (V 4) H) [(0,(λV H=>rU a N (V 3) H))] (p Tryz.f38) V H=uy a N h (V 1) (V 3) (V 4) H:=by
 refine bm (q _) λV H=> ?_
 delta uy;generalize rU a N=c;revert c;refine id ?_;intro c;kernel_rfl
def yh(c:e)(N:Nat)(F:aa)(H:ad):O:=bO H (cg (H).next F) λy a=>C (j P 43 y 0) λd=>C (A P a 9 d) λaJ=>nL c N N y aJ (J U 0) a
def WH(N:Nat){F:aa}{H:ad}{r:aa×ad}(h:yh (al P aj) N F H=I r):al P aj 38 [F] H=I r:=bu N (S:=λa=>yh a N F H) Tryz.func38 (λa=>cG ((Q M ((Q M ((Q M (Y_ a N) ((Q M ((cn M ((cY (k:=λm V H=>nL a N m (V 1) (V 3) (V 4) H) M (λV H=>M) (λm=>Y9 a N (nL a N m)))))) (q _))))) (q _))) (q _))) (by delta yh;generalize nL a N N=c;revert c;refine id ?_;intro c;kernel_rfl)) h
def yg(k:e)(F:aa)(H:ad):O:=bO H (cg (H).next F) λy a=>C (j P 66 y 1) λaJ=>C (A P a 43 aJ) λm=>i a (k 38 [m] a) λn c=>C (j P 66 y 0) λd=>C (A P c 9 d) λh=>C (w P .add 9 Y h (Z [58,32])) λl=>C (w P .add 9 X l n) λo=>bif ((aZ (A P a 9 d) h&&aZ (A P c 9 d) h)&&Y)then(I (o,c))else u
def WG(N:Nat){F:aa}{H:ad}{r:aa×ad}(h:yg (al P aj) F H=I r):al P aj 37 [F] H=I r:=bu N (S:=λa=>yg a F H) Tryz.func37 (λ_=>by delta yg;kernel_rfl) h
end
end
section
set_option maxRecDepth 100000
noncomputable section
end
end
def QP(n:Int):mU P 3 5 (J U n)=I (J .u8 (IntKind.u8.wrap n)):=M
def QQ(l i n e:Nat)(c:Option Nat):mU P 81 9 (.ax l i n e c)=none:=M
def aaY(l:Nat)(k:Int):b0 P l 81 1 [(0,J .u8 k)]=I (.ax l 0 1 1 (I 1),.row X 1 [[J .u8 k]]):=M
def abF:P.underlying 81=I (.slice 5):=M
def abE:P.underlying 5=I (.int .u8):=M
def abG:P.underlying 9=I .string:=M
def Qw{H:ad}{L:Nat}{k:Int}{cap:Option Nat}{ro:Bool}(a:H.get L=I (.row ro 1 [[J .u8 k]])):oj P H 81 9 (.ax L 0 1 1 cap)=I (Z [UInt8.ofNat k.toNat]):=by
 simp[oj,abF,abE,abG,iy,a,bytesOf,Go.bk.byteOf]
def UD(m:Nat):w P .quo 3 Y (J U (m:Int)) (J U 10)=I (J U (IntKind.i64.wrap ((m:Int).tdiv 10))):=by simp[w,hC]
def UU(m:Nat):w P .rem 3 Y (J U (m:Int)) (J U 10)=I (J U ((m:Int).tmod 10)):=by simp[w,hC]
def NK{N:Nat}{n:Int}(o:0<=n){H0:ad}:∀(f m k:Nat) (acc:ay) (H:ad),m≠0->m<10^f->m<=9223372036854775807->acc.length+f<=100->f<k->aw H0 H->
  W (n0 (al P aj) N k (J U n) (Z acc) (J U m) H) λv H'=>v= Z (hS f m acc)/\aw H0 H'
 |0,m,_,_,_,j,c,_,_,_,_=>by simp at c;omega
 |_,_,0,_,_,_,_,_,_,h,_=>ae
 |f+1,m,k+1,acc,H,j,c,z,A,B,e=>by
  have i:((m:Int) != 0)=true:=by simp;omega
  have s:(m:Int).tmod 10=((m%10:Nat):Int):=rfl;have aX:(m:Int).tdiv 10=((m/10:Nat):Int):=rfl;have w0:IntKind.i64.wrap ((m/10:Nat):Int)=((m/10:Nat):Int):=wrap_i64 ae ae;have x:IntKind.i64.wrap ((48:Int)+((m%10:Nat):Int))=((48+m%10:Nat):Int):=by rw[wrap_i64 ae ae];omega
  have y:IntKind.u8.wrap ((48+m%10:Nat):Int)=((48+m%10:Nat):Int):=by show((48+m%10:Nat):Int)%256=_;omega
  have d0:¬(((m%10:Nat):Int)<0):=ae;have l:=ad.a_ H (.row X 1 [[J .u8 ((48+m%10:Nat):Int)]]);have d:=Qw (cap:=some 1) l;rw[Int.toNat_natCast]at d;have bB:w P .add 9 X (Z [UInt8.ofNat (48+m%10)]) (Z acc)=I (Z (UInt8.ofNat (48+m%10)::acc)):=lP _ _ _ _ (by simp only[ef,de];omega);simp only[n0,uL,si,p1,aR,b8,i,UU,UD,s,aX,w0,x,y,d0,decide_false,sG,QP,aaY,QQ,d,bB];rw[hS];by_cases a:m/10=0
  ·rw[if_pos a,a];have q:(((0:Nat):Int) != 0)=false:=rfl;have p:¬n<0:=ae;cases k with
   |zero=>omega
   |succ k=>
    simp only[n0,uL,nZ,aR,b8,q,p,decide_false];exact aD.2 ⟨rfl,e.a1 _⟩
  ·rw[if_neg a];exact NK o f (m/10) k _ _ a (by rw[Nat.pow_succ]at c;omega) ae (by simp only[ef];omega) ae (e.a1 _)
def abo{H:ad}{n:Int}(c:0<=n)(e:n<=9223372036854775807):W (al P aj 87 [J U n] H) λv H'=>v= Z (hS 20 n.toNat [])/\aw H H':=by
 refine bt (λ_=>Xu 30) ?_;rw[yU];by_cases a:n=0
 ·subst a;simp only[ai,beq_self_eq_true];exact aD.2 ⟨rfl,.refl _⟩
 ·have d:(n==0)=false:=by simpa using a
  simp only[ai,d];have:=NK (N:=30) c (H0:=H) 20 n.toNat 30 [] H ae (by have:=wm;omega) ae (by simp) ae (.refl _);rw[show((n.toNat:Nat):Int)=n by omega]at this;exact this
def IP(x:ay)(n:Nat)(l:List bQ):flat (rep n (bp x)++l)=(wx n x).flatten++flat l:=by
 induction n with
 |zero=>rfl
 |succ n a=>unfold rep at a ⊢;rw[rs,mn,flat,a,rs,GH,hi];rfl
def ir(x:ay)(n:Nat):ay:=(wx n [91]).flatten++(x++(wx n [93]).flatten)
def RH(x:ay)(l:List bQ):flat (qa x::l)=x++flat l:=by
 unfold qa;cases fB x<;>rfl
def dV:flat []=[]:=rfl
def RF(x:ay)(z:Int):flat (cR x z)=ir x z.toNat:=by
 unfold cR ir;rw[IP,RH];have:=IP [93] z.toNat [];rw[pq,dV,pq]at this;rw[this]
def abB(x:ay)(n:Nat):ir x (n+1)=[91]++ir x n++[93]:=by
 have e:∀n,(wx (n+1) ([93]:ay)).flatten=(wx n ([93]:ay)).flatten++[93]:=by
  intro n;rw[zA];simp
 unfold ir;rw[e,rs,GH];simp only[hi]
def abA(x:ay)(n:Nat):(ir x n).length=2*n+x.length:=by
 unfold ir;simp;omega
def Om{N:Nat}{H:ad}{l:Nat}{x:ay}{z:Int}(d:H.get l=I (.row X 2 [[Z x,J U z]]))(i:x.length<=100)(m:z<=100):∀(c j k:Nat),((j+c:Nat):Int)=z->c<k->
  W (nL (al P aj) N k (.ptr l 0 0) (Z (ir x j)) (J U j) H) λv H'=>v= Z (ir x z.toNat)/\H'=H
 |_,_,0,_,h=>ae
 |0,j,k+1,e,_=>by
  have a:¬((j:Int)<z):=ae;simp only[nL,uy,rU,ai,d,a,decide_false];exact aD.2 ⟨by rw[show z.toNat=j by omega],rfl⟩
 |c+1,j,k+1,e,o=>by
  have a:(j:Int)<z:=ae;have ak:=abA x j;have ap:w P .add 9 Y (Z [91]) (Z (ir x j))=I (Z (91::ir x j)):=lP _ _ _ _ (by simp only[ef,de];omega);have aE:w P .add 9 Y (Z (91::ir x j)) (Z [93])=I (Z (ir x (j+1))):=by
   rw[abB];exact lP _ _ (91::ir x j) [93] (by simp only[ef,de];omega)
  have n:IntKind.i64.wrap ((j:Int)+1)=((j+1:Nat):Int):=by rw[wrap_i64 ae ae];omega
  simp only[nL,uy,aR,b8,cX,A,bL,cw,d,a,decide_true,ap,aE,n];exact Om d i m c (j+1) k ae ae
def sC{H:ad}{x:ay}{z:Int}(i:0<=z)(a:z<=100)(d:x.length<=100):W (al P aj 38 [.agg [Z x,J U z]] H) λv H'=>v= Z (flat (cR x z))/\aw H H':=by
 refine bt (λ_=>WH 200) ?_;have c:∀l,cg l (.agg [Z x,J U z])=I (.ptr l 0 0,.row X 2 [[Z x,J U z]]):=λl=>ei l _ rfl
 rw[yh,RF];simp only[ai,c];have h:=Om (N:=200) (ad.a_ H (.row X 2 [[Z x,J U z]])) d a z.toNat 0 200 ae ae;have e:ir x 0=x:=by simp[ir]
 rw[e]at h;refine h.mono ?_;rintro v _ ⟨rfl,rfl⟩;exact⟨rfl,aw.push _ _⟩
def Kl{H:ad}{a:bY}{kv:aa}(s:kv.one=Y):W (al P aj 89 [.agg (a.cells kv)] H) λv H'=>v= J U (cW a.kind)/\aw H H':=by
 refine bt (λ_=>Xw 0) ?_;have i:∀l,cg l (.agg (a.cells kv))=I (.ptr l 0 0,.row X 11 [a.cells kv]):=λl=>ei l _ (by simp only[bY.cells,DE,HI,eO,fk,s,EF])
 have c:=aw.push H (.row X 11 [a.cells kv]);simp only[bY.cells]at i c ⊢;generalize a.kind=k at i c ⊢;unfold yW n1 sj p2 sk jD;simp only[ai,i];unfold cW;have o:∀m:Int,k=m->(k==m)=true:=λm h=>by simpa using h
 have eb:∀m:Int,k≠m->(k==m)=false:=λm h=>by simpa using h
 by_cases d:k=24
 ·simp only[aR,o _ d];refine⟨_,_,rfl,?_,c⟩;rw[if_pos d];rfl
 by_cases e:k=23
 ·simp only[aR,b8,eb _ d,o _ e];refine⟨_,_,rfl,?_,c⟩;rw[if_neg d,if_pos e];rfl
 by_cases q:19<=k/\k<=22
 ·have:k=19\/k=20\/k=21\/k=22:=ae;rcases this with rfl|rfl|rfl|rfl<;>exact⟨_,_,rfl,rfl,c⟩
 by_cases n:k=14\/k=15
 ·rcases n with rfl|rfl<;>exact⟨_,_,rfl,rfl,c⟩
 by_cases p:16<=k/\k<=18
 ·have:k=16\/k=17\/k=18:=ae;rcases this with rfl|rfl|rfl<;>exact⟨_,_,rfl,rfl,c⟩
 by_cases j:k=12\/k=13
 ·rcases j with rfl|rfl<;>exact⟨_,_,rfl,rfl,c⟩
 ·simp only[aR,b8,eb 24 ae,eb 23 ae,eb 19 ae,eb 20 ae,eb 21 ae,eb 22 ae,eb 14 ae,eb 15 ae,eb 16 ae,eb 17 ae,eb 18 ae,eb 12 ae,eb 13 ae];refine⟨_,_,rfl,?_,c⟩;rw[if_neg d,if_neg e,if_neg q,if_neg n,if_neg p,if_neg j];rfl
def aaO{H:ad}{k:Int}(h:14<=k)(aU:k<=24):W (al P aj 90 [J U k] H) λv H'=>v= Z (gB k)/\aw H H':=by
 refine bt (λ_=>Xy 0) ?_;have c:k=14\/k=15\/k=16\/k=17\/k=18\/k=19\/k=20\/k=21\/k=22\/k=23\/k=24:=ae;rcases c with rfl|rfl|rfl|rfl|rfl|rfl|rfl|rfl|rfl|rfl|rfl<;>
 ·unfold yY;have w:∀a b:Int,0<=a-b->a-b<=100->IntKind.i64.wrap (a-b)=a-b:=λa b x y=>wrap_i64 x ae
  simp(disch:=try exact ah)only[ai,w];exact aD.2 ⟨rfl,aw.push _ _⟩
section
set_option maxRecDepth 100000
noncomputable section
def yV(c:e)(F y:aa)(H:ad):O:=bO H (cg (H).next F) λj d=>C (A P d 103 j) λp=>i d (c 89 [p] d) λaJ a=>C (w P .lss 3 X aJ y) λq=>aO (I q) (C (A P a 103 j) λs=>i a (c 63 [s] a) λk h=>C (w P .add 9 Y (Z [40]) k) λl=>C (w P .add 9 Y l (Z [41])) λm=>I (m,h)) (C (A P a 103 j) λn=>i a (c 63 [n] a) λo h=>I (o,h))
def Xv(N:Nat){F y:aa}{H:ad}{r:aa×ad}(h:yV (al P aj) F y H=I r):al P aj 88 [F,y] H=I r:=bu N (S:=λa=>yV a F y H) Tryz.func88 (λ_=>by delta yV;kernel_rfl) h
def lx(h:e)(N:Nat)(y:aa)(H:ad):O:=C (A P H 103 y) λv=>i H (h 89 [v] H) λq a=>C (j P 103 y 4) λx=>C (A P a 96 x) λz=>C (bX P 96 z (J U 0)) λB=>C (A P a 103 B) λE=>i a (h 88 [E,q] a) λF c=>C (j P 103 y 0) λo=>C (A P c 3 o) λp=>i c (h 90 [p] c) λK d=>C (j P 103 y 4) λk=>C (A P d 96 k) λl=>C (bX P 96 l (J U 1)) λm=>C (A P d 103 m) λn=>C (w P .add 3 Y q (J U 1)) λQ=>i d (h 88 [n,Q] d) λR s=>C (w P .add 9 Y F (Z [32])) λG=>C (w P .add 9 X G K) λL=>C (w P .add 9 Y L (Z [32])) λM=>C (w P .add 9 X M R) λS=>bif ((aZ (A P a 3 o) p&&(aZ (A P c 3 o) p&&Y))&&((aZ (A P a 96 k) l&&(aZ (A P c 96 k) l&&(aZ (A P d 96 k) l&&Y)))&&((aZ (A P a 103 m) n&&(aZ (A P c 103 m) n&&(aZ (A P d 103 m) n&&Y)))&&Y)))then(I (S,s))else u
def ZI(a:e)(N:Nat):∀V H,a7 P a N (L (L (n Tryz.f63))) (p Tryz.f63) [] (p Tryz.f63) V H=lx a N (V 1) H:=by
 refine bm (q _) λV H=> ?_
 delta lx;kernel_rfl
def mj(d:e)(N:Nat)(a:aa)(H:ad):O:=C (w P .add 9 Y a (Z [41])) λc=>I (c,H)
def ZJ(a:e)(N:Nat):∀V H,a7 P a N (L (L (d (L (L (L (L (L (L (L (L (L (L (L (L (L (d (L (d (L (n Tryz.f63))))))))))))))))))))) (λV H=>lx a N (V 1) H) [(0,(λV H=>lx a N (V 1) H))] (p Tryz.f63) V H=mj a N (V 3) H:=by
 refine bm (q _) λV H=> ?_
 delta mj;kernel_rfl
def pT(i:e)(N:Nat)(a:aa->aa->aa->ad->O)(y c d:aa)(H:ad):O:=C (w P .add 3 Y d (J U 1)) λh=>a y c h H
def ZK(a:e)(N:Nat)(c:aa->aa->aa->ad->O):∀V H,a7 P a N (L (L (d (d (L (d (L (d (L (L (L (L (L (L (L (L (L (L (L (L (L (d (L (d (L (n Tryz.f63)))))))))))))))))))))))))) (λV H=>c (V 1) (V 3) (V 4) H) [(1,(λV H=>mj a N (V 3) H)),(0,(λV H=>lx a N (V 1) H))] (p Tryz.f63) V H=pT a N c (V 1) (V 3) (V 4) H:=by
 refine bm (q _) λV H=> ?_
 delta pT;kernel_rfl
def pU(a:e)(N:Nat)(d:aa->aa->aa->ad->O)(y k c:aa)(H:ad):O:=C (j P 103 y 4) λl=>C (A P H 96 l) λm=>C (bX P 96 m c) λn=>C (A P H 103 n) λo=>i H (a 63 [o] H) λp h=>C (w P .add 9 X k p) λq=>pT a N d y q c h
def ZL(a:e)(N:Nat)(c:aa->aa->aa->ad->O):∀V H,a7 P a N (L (d (d (L (d (d (L (d (L (d (L (L (L (L (L (L (L (L (L (L (L (L (L (d (L (d (L (n Tryz.f63)))))))))))))))))))))))))))) (λV H=>pT a N c (V 1) (V 3) (V 4) H) [(2,(λV H=>pT a N c (V 1) (V 3) (V 4) H)),(1,(λV H=>mj a N (V 3) H)),(0,(λV H=>lx a N (V 1) H))] (p Tryz.f63) V H=pU a N c (V 1) (V 3) (V 4) H:=by
 refine bm (q _) λV H=> ?_
 delta pU;generalize pT a N c=h;revert h;refine id ?_;intro h;kernel_rfl
def pS(c:e)(N:Nat)(h:aa->aa->aa->ad->O)(y d a:aa)(H:ad):O:=C (j P 103 y 4) λi=>C (A P H 96 i) λk=>bU P .len [96] [k] H λl=>C (w P .lss 3 X a l) λm=>aO (I m) (C (w P .gtr 3 Y a (J U 0)) λn=>aO (I n) (C (w P .add 9 Y d (Z [44,32])) λo=>pU c N h y o a H) (pU c N h y d a H)) (mj c N d H)
def kF(a:e)(N:Nat):Nat->aa->aa->aa->ad->O
 |0,_,_,_,_=>u
 |n+1,y,c,d,H=>pS a N (kF a N n) y c d H
def ZH(a:e)(N:Nat)(c:aa->aa->aa->ad->O):∀V H,a7 P a N (d (d (L (d (L (d (L (L (L (L (L (L (L (L (L (L (L (L (L (d (L (d (L (n Tryz.f63)))))))))))))))))))))))) (λV H=>c (V 1) (V 3) (V 4) H) [(1,(λV H=>mj a N (V 3) H)),(0,(λV H=>lx a N (V 1) H))] (p Tryz.f63) V H=pS a N c (V 1) (V 3) (V 4) H:=by
 refine bm ((Q M ((Q M (ZK a N c) ((cn M ((Q M (ZL a N c) (q _))))))) (q _))) λV H=> ?_
 delta pS;generalize mj a N=h;generalize pU a N c=i;revert h i;refine id ?_;intro h i;kernel_rfl
def yA(h:e)(N:Nat)(F:aa)(H:ad):O:=bO H (cg (H).next F) λy a=>C (j P 103 y 0) λaJ=>C (A P a 3 aJ) λd=>C (w P .eql 3 Y d (J U 1)) λbd=>aO (I bd) (C (j P 103 y 1) λB=>C (A P a 3 B) λT=>i a (h 87 [T] a) λak c=>I (ak,c)) (C (w P .eql 3 Y d (J U 2)) λau=>aO (I au) (C (j P 103 y 1) λav=>C (A P a 3 av) λaw=>C (w P .eql 3 Y aw (J U 1)) λay=>aO (I ay) (I ((Z [116,114,117,101]),a)) (I ((Z [102,97,108,115,101]),a))) (C (w P .eql 3 Y d (J U 3)) λaz=>aO (I az) (C (j P 103 y 3) λaA=>C (A P a 43 aA) λaB=>i a (h 38 [aB] a) λaC c=>C (w P .add 9 Y (Z [110,117,108,108,32]) aC) λaD=>I (aD,c)) (C (w P .eql 3 Y d (J U 4)) λaE=>aO (I aE) (C (j P 103 y 2) λaF=>C (A P a 9 aF) λaG=>I (aG,a)) (C (w P .eql 3 Y d (J U 5)) λaH=>aO (I aH) (C (j P 103 y 4) λaI=>C (A P a 96 aI) λaK=>C (bX P 96 aK (J U 0)) λaL=>C (A P a 103 aL) λaM=>i a (h 88 [aM,J U 7] a) λaN c=>C (w P .add 9 Y aN (Z [46])) λaP=>C (j P 103 y 2) λl=>C (A P c 9 l) λm=>C (w P .add 9 X aP m) λaQ=>bif ((aZ (A P a 9 l) m&&aZ (A P c 9 l) m)&&Y)then(I (aQ,c))else u) (C (w P .eql 3 Y d (J U 6)) λaR=>aO (I aR) (C (j P 103 y 4) λaS=>C (A P a 96 aS) λaT=>C (bX P 96 aT (J U 0)) λaU=>C (A P a 103 aU) λaV=>i a (h 88 [aV,J U 7] a) λaW c=>C (j P 103 y 4) λn=>C (A P c 96 n) λo=>C (bX P 96 o (J U 1)) λp=>C (A P c 103 p) λq=>i c (h 63 [q] c) λaY k=>C (w P .add 9 Y aW (Z [91])) λaX=>C (w P .add 9 X aX aY) λa0=>C (w P .add 9 Y a0 (Z [93])) λa1=>bif ((aZ (A P a 96 n) o&&(aZ (A P c 96 n) o&&Y))&&((aZ (A P a 103 p) q&&(aZ (A P c 103 p) q&&Y))&&Y))then(I (a1,k))else u) (C (w P .eql 3 Y d (J U 7)) λa2=>aO (I a2) (C (j P 103 y 2) λa3=>C (A P a 9 a3) λa4=>C (w P .add 9 Y a4 (Z [40])) λa5=>kF h N N y a5 (J U 0) a) (C (w P .eql 3 Y d (J U 8)) λa6=>aO (I a6) (C (j P 103 y 3) λa7=>C (j P 43 a7 0) λa8=>C (A P a 9 a8) λa9=>C (w P .add 9 Y (Z [110,101,119,32]) a9) λa_=>I (a_,a)) (C (w P .eql 3 Y d (J U 9)) λba=>aO (I ba) (C (j P 103 y 3) λbb=>C (A P a 43 bb) λbc=>i a (h 38 [bc] a) λbe c=>C (j P 103 y 4) λs=>C (A P c 96 s) λv=>C (bX P 96 v (J U 0)) λx=>C (A P c 103 x) λz=>i c (h 63 [z] c) λbh k=>C (w P .add 9 Y (Z [110,101,119,32,91]) be) λbf=>C (w P .add 9 Y bf (Z [93,40])) λbg=>C (w P .add 9 X bg bh) λbi=>C (w P .add 9 Y bi (Z [41])) λbj=>bif ((aZ (A P a 96 s) v&&(aZ (A P c 96 s) v&&Y))&&((aZ (A P a 103 x) z&&(aZ (A P c 103 x) z&&Y))&&Y))then(I (bj,k))else u) (C (w P .eql 3 Y d (J U 10)) λE=>aO (I E) (C (j P 103 y 4) λG=>C (A P a 96 G) λK=>C (bX P 96 K (J U 0)) λL=>C (A P a 103 L) λM=>i a (h 63 [M] a) λQ c=>C (w P .add 9 Y (Z [108,101,110,40]) Q) λR=>C (w P .add 9 Y R (Z [41])) λS=>I (S,c)) (C (w P .eql 3 Y d (J U 11)) λV=>aO (I V) (I ((Z [114,101,97,100,40,41]),a)) (C (w P .eql 3 Y d (J U 12)) λW=>aO (I W) (C (j P 103 y 4) λab=>C (A P a 96 ab) λae=>C (bX P 96 ae (J U 0)) λaf=>C (A P a 103 af) λah=>i a (h 88 [ah,J U 6] a) λai c=>C (w P .add 9 Y (Z [45]) ai) λaj=>I (aj,c)) (C (w P .eql 3 Y d (J U 13)) λal=>aO (I al) (C (j P 103 y 4) λam=>C (A P a 96 am) λan=>C (bX P 96 an (J U 0)) λao=>C (A P a 103 ao) λap=>i a (h 88 [ap,J U 6] a) λaq c=>C (w P .add 9 Y (Z [33]) aq) λar=>I (ar,c)) (lx h N y a)))))))))))))
def W7(N:Nat){F:aa}{H:ad}{r:aa×ad}(h:yA (al P aj) N F H=I r):al P aj 63 [F] H=I r:=bu N (S:=λa=>yA a N F H) Tryz.func63 (λa=>cG ((Q M ((Q M (ZI a N) ((Q M ((cn M ((Q M ((e6 M (q _) ((Q M ((e6 M (q _) ((Q M ((e6 M (q _) ((Q M ((e6 M (q _) ((Q M ((e6 M (q _) ((Q M ((e6 M (q _) ((Q M ((e6 M ((Q M ((Q M (ZJ a N) ((Q M ((cn M ((cY (k:=λm V H=>kF a N m (V 1) (V 3) (V 4) H) M (λV H=>M) (λm=>ZH a N (kF a N m)))))) (q _))))) (q _))) (q _))) (q _))))) (q _))))) (q _))))) (q _))))) (q _))))) (q _))))) (q _))))) (q _))))) (q _))) (by delta yA;generalize lx a N=c;generalize kF a N N=d;revert c d;refine id ?_;intro c d;kernel_rfl)) h
end
end
def bW.beq{H:ad}{ok:Nat->Prop}{ks:List az}{kv:aa}(h:bW H ok ks kv):aa.beq kv kv=true:=by
 rcases h with⟨rfl,_⟩|⟨l,i,cap,ro,els,rfl,_⟩|⟨l,i,cap,rfl,_⟩<;>simp[aa.beq]
def tK{a:bY}{kv:aa}(h:aa.beq kv kv=Y):aZ (I (.agg (a.cells kv))) (.agg (a.cells kv))=true:=by
 simp[aZ,aa.beq,fK.beq,bY.cells,h]
def cU.get{H:ad}{ok:Nat->Prop}:∀{ks:List az} {css:List (List aa)} {j:Nat} {e:az},cU H ok ks css->ks[j]? =I e->∃cs,css[j]? =I cs/\cb H ok e (.agg cs)
 |[],_,_,_,_,h=>by simp at h
 |_::_,[],_,_,h,_=>by rw[cU]at h;exact h.elim
 |k::ks,cs::css,0,e,h,a=>by rw[cU]at h;simp at a;subst a;exact⟨cs,rfl,h.1⟩
 |k::ks,cs::css,j+1,e,h,a=>by
  rw[cU]at h;obtain⟨c,aX,d⟩:=cU.get (ks:=ks) (css:=css) (j:=j) h.2 (by simpa using a);exact⟨c,by simpa using aX,d⟩
def bW.hW{H:ad}{ok:Nat->Prop}{ks:List az}{kv:aa}(h:bW H ok ks kv){n:Nat}(k:ks.length=n){j:Nat}{a:bY}{es:List az}(e:ks[j]? =I (.mk a es)):∃l i cap ro els c,kv= .ax l i n 11 cap/\H.get l=I (.row ro 11 els)/\els[i+j]? =I (a.cells c)/\bW H ok es c:=by
 subst k;have d:ks.length≠0:=by intro h;have:=vw.1 h;subst this;simp at e
 rcases h with⟨_,ap⟩|⟨l,i,cap,ro,els,rfl,_,bB,cc⟩|⟨_,_,_,_,ap⟩
 ·exact absurd ap d
 ·obtain⟨cs,aX,m⟩:=cc.get e;obtain⟨c,o,p⟩:=gq.1 m;cases o;exact⟨l,i,cap,ro,els,c,rfl,bB,by rw[List.getElem?_drop]at aX;exact aX,p⟩
 ·exact absurd ap d
def dQ(x:ay)(l:List bQ):flat (bp x::l)=x++flat l:=rfl
def iB(x:ay)(l:List bQ):flat (wd x::l)=x++flat l:=rfl
def lQ(x:ay)(l:List bQ):flat (nm x::l)=x++flat l:=rfl
def ft(l:List bQ):flat (b9::l)=[32]++flat l:=rfl
def cJ{t:TypeId}{c:Bool}{a b:ay}(h:a.length+b.length<=9223372036854775807):w P .add t c (Z a) (Z b)=I (Z (a++b)):=lP t c a b h
def zJ(e:az):Prop:=∀(d m:Nat),cx d m e->du e<=1000000000->∀(a:bY) (ks:List az),e= .mk a ks->∀(H:ad) (ok:Nat->Prop) (kv:aa),bW H ok ks kv->W (al P aj 63 [.agg (a.cells kv)] H) λr H'=>r= Z (flat (be e))/\aw H H'
def abX{H:ad}{a:bY}{ks:List az}{kv:aa}{m:Nat}(p:kv.one=Y)(y:∀H',aw H H'->W (al P aj 63 [.agg (a.cells kv)] H') λr v=>r= Z (flat (be (.mk a ks)))/\aw H' v)(ak:(flat (be (.mk a ks))).length<=1000000000):
  W (al P aj 88 [.agg (a.cells kv),J U m] H) λr H'=>r= Z (flat (cC m (.mk a ks)))/\aw H H':=by
 refine bt (λ_=>Xv 0) ?_;have o:∀l,cg l (.agg (a.cells kv))=I (.ptr l 0 0,.row X 11 [a.cells kv]):=λl=>ei l _ (by simp only[bY.cells,DE,HI,eO,fk,p,EF])
 have e:=aw.push H (.row X 11 [a.cells kv]);have fM:=ad.a_ H (.row X 11 [a.cells kv]);have q:=λH'=>Kl (H:=H') (a:=a) p
 have j:=λH' (h:aw H H')=>y H' h
 simp only[bY.cells]at o e fM q j ⊢;unfold yV;simp only[aR,cw,A,bL,b7,o];refine aA (q _) ?_;rintro _ k ⟨rfl,c⟩;refine⟨c.1,?_⟩;have n:=c.get fM;by_cases s:((cW a.kind:Nat):Int)<(m:Int)
 ·have i:(az.mk a ks).aM<m:=by unfold az.aM az.kind;simp only;omega
  simp only[aR,b8,cw,A,bL,n,s,decide_true];refine aA (j k (e.trans c)) ?_;rintro _ x ⟨rfl,d⟩;refine⟨d.1,?_⟩;have ap:w P .add 9 Y (Z [40]) (Z (flat (be (.mk a ks))))=I (Z (40::flat (be (.mk a ks)))):=lP _ _ _ _ (by simp only[ef,de];omega);have aE:w P .add 9 Y (Z (40::flat (be (.mk a ks)))) (Z [41])=I (Z (40::flat (be (.mk a ks))++[41])):=lP _ _ _ _ (by simp only[ef,de];omega);simp only[ap,aE,it];exact aD.2 ⟨by rw[q6 i,dQ,ec];rfl,(e.trans c).trans d⟩
 ·have i:¬(az.mk a ks).aM<m:=by unfold az.aM az.kind;simp only;omega
  simp only[aR,b8,cw,A,bL,n,s,decide_false];refine aA (j k (e.trans c)) ?_;rintro _ x ⟨rfl,d⟩;refine⟨d.1,?_⟩;exact aD.2 ⟨by rw[l1 i],(e.trans c).trans d⟩
def sq(j:Nat):List az->ay
 |[]=>[]
 |_=>bif j==0 then[]else[44,32]
def Ew{N:Nat}{H0:ad}{r L i:Nat}{a:bY}{cap:Option Nat}{ro:Bool}{els:List (List aa)}{ks:List az}(q:H0.get r=I (.row X 11 [a.cells (.ax L i ks.length 11 cap)]))(y:H0.get L=I (.row ro 11 els)){ok:Nat->Prop}(M:∀e∈ks,zJ e)(O:∀e∈ks,cx 0 0 e\/∃d,cx d 0 e)(an:ks.length<=1000000000)(au:ch ks<=1000000000):
  ∀(es:List az) (j k:Nat) (acc:ay) (H:ad),ks.drop j=es->cU H0 ok es (els.drop (i+j))->acc.length+ch es<=2000000000/\ch es<=1000000000->j+es.length=ks.length->es.length<k->aw H0 H->
  W (kF (al P aj) N k (.ptr r 0 0) (Z acc) (J U j) H) λv H'=>v= Z (acc++(sq j es++flat (fG (di es))++[41]))/\aw H0 H'
 |_,_,0,_,_,_,_,_,_,B,_=>ae
 |[],j,k+1,acc,H,x,G,E,z,B,m=>by
  have o:¬((j:Int)<(ks.length:Int)):=by simp at z;omega
  have l:=m.get q;simp only[bY.cells]at l;have ap:w P .add 9 Y (Z acc) (Z [41])=I (Z (acc++[41])):=lP _ _ _ _ (by simp only[ef,de];omega);simp(disch:=try exact ah)only[kF,pS,mj,ai,l,o,decide_false,ap];exact aD.2 ⟨by simp[sq,di,fG,flat],m⟩
 | .mk b c::es,j,k+1,acc,H,x,G,E,z,B,m=>by
  simp only[ef]at z B;have o:(j:Int)<(ks.length:Int):=ae;have K:az.mk b c∈ks:=by
   have:az.mk b c∈ks.drop j:=by rw[x];simp
   exact List.mem_of_mem_drop this
  obtain⟨d,Q⟩:∃d,cx d 0 (.mk b c):=by
   rcases O _ K with h|h
   ·exact⟨0,h⟩
   ·exact h
  rw[ch]at E;have aN:=vL Q;obtain⟨cs,aX,aC,aF⟩:=G.cons;obtain⟨ar,aG,aH⟩:=gq.1 aC;cases aG;have l:=m.get q;have C:=m.get y;have aq:((j:Int)).toNat=j:=ae;have aK:(0:Int)<=(j:Int):=ae;have aI:IntKind.i64.wrap ((j:Int)+1)=((j+1:Nat):Int):=by rw[wrap_i64 ae ae];omega
  have am:du (.mk b c)<=1000000000:=ae;have R:=λH' (p:aw H0 H')=>M _ K d 0 Q am b c rfl H' ok ar (aH.av p)
  have af:ks.drop (j+1)=es:=by
   have:(ks.drop j).drop 1=es:=by rw[x];rfl
   rwa[List.drop_drop]at this
  have ao:flat (fG (di (.mk b c::es)))=flat (be (.mk b c))++(sq 1 es++flat (fG (di es))):=by
   cases es with
   |nil=>rw[oY];simp[fG,di,flat,sq]
   |cons f r=>
    rw[di,di,fG,ec,dQ,ft]
    ·simp only[];rfl
    ·intro a;cases a
  have fin:∀(n:ay) (H':ad),n=acc++(bif j==0 then[]else[44,32])->aw H0 H'->W (pU (al P aj) N (kF (al P aj) N k) (.ptr r 0 0) (Z n) (J U j) H') λv V=>v= Z (acc++((bif j==0 then[]else[44,32])++flat (fG (di (.mk b c::es)))++[41]))/\aw H0 V:=by
   intro n H' F s;have aL:n.length<=acc.length+2:=by
    rw[F];cases j==0<;>simp
   have l:=s.get q;have C:=s.get y;simp only[bY.cells]at l aX R;simp(disch:=try exact ah)only[pU,ai,l,C,aq,aX];refine aA (R H' s) ?_;rintro _ ab ⟨rfl,T⟩;refine⟨T.1,?_⟩;have aE:w P .add 9 X (Z n) (Z (flat (be (.mk b c))))=I (Z (n++flat (be (.mk b c)))):=lP _ _ _ _ ae;simp(disch:=try exact ah)only[pT,aR,b8,aE,aI];refine(Ew q y M O an au es (j+1) k _ ab af (by rw[show i+(j+1)=i+j+1 by omega];exact aF) ⟨by simp only[fg];omega,ae⟩ ae ae (s.trans T)).mono ?_;rintro v aJ ⟨rfl,aB⟩;refine⟨?_,aB⟩;rw[ao,F];have aM:(j+1==0)=false:=by simp
   cases es<;>simp[sq]
  by_cases S:j=0
  ·subst S;have A:¬((0:Int)<((0:Nat):Int)):=ae;simp only[bY.cells]at l;simp(disch:=try exact ah)only[kF,pS,ai,l,o,A,decide_true,decide_false];exact fin acc H (by simp) m
  ·have A:(0:Int)<(j:Int):=ae;have ap:w P .add 9 Y (Z acc) (Z [44,32])=I (Z (acc++[44,32])):=lP _ _ _ _ (by simp only[ef,de];omega);simp only[bY.cells]at l;simp(disch:=try exact ah)only[kF,pS,ai,l,o,A,decide_true,ap];have ak:(j==0)=false:=by simpa using S
   exact fin _ H (by rw[ak];rfl) m
def iK:(0:Int).toNat=0:=rfl
def Du:(1:Int).toNat=1:=rfl
def eC:(0:Int)<((1:Nat):Int):=ae
def aJ:∀e:az,zJ e
 | .mk a ks=>by
  have au:∀e∈ks,zJ e:=λe aC=>aJ e
  intro d m aT aG bj bf aC H ok kv Q;cases aC;have h:=aT.low (m':=0) (Nat.zero_le _);clear aT;have af:=vL h;have a4:=Q.db;have C:∀l,cg l (.agg (a.cells kv))=I (.ptr l 0 0,.row X 11 [a.cells kv]):=λl=>ei l _ (by simp only[bY.cells,DE,HI,eO,fk,a4,EF])
  have y:=aw.push H (.row X 11 [a.cells kv]);have fM:=ad.a_ H (.row X 11 [a.cells kv]);have ar:∀{an m':Nat} {b:bY} {o:List az},az.mk b o∈ks->cx an m' (.mk b o)->du (.mk b o)<=1000000000/\∀(H':ad) (B:aa),bW H' ok o B->W (al P aj 63 [.agg (b.cells B)] H') λr aH=>r= Z (flat (be (.mk b o)))/\aw H' aH:=by
   intro an m' b o hm V;have bb:du (.mk b o)<=ch ks:=by
    clear au af Q aG h C y fM
    induction ks with
    |nil=>cases hm
    |cons k r a6=>
     rw[ch];rcases CD.1 hm with rfl|hm
     ·omega
     ·have:=a6 hm;omega
   rw[du]at aG;have aU:du (.mk b o)<=1000000000:=ae;exact⟨aU,λH' B aF=>au _ hm an m' V aU b o rfl H' ok B aF⟩
  have h7:∀{an m':Nat} {b:bY} {o:List az} (n:Nat) {z:Int},z=n->az.mk b o∈ks->cx an m' (.mk b o)->∀(H':ad) (B:aa),bW H' ok o B->W (al P aj 88 [.agg (b.cells B),J U z] H') λr aH=>r= Z (flat (cC n (.mk b o)))/\aw H' aH:=by
   intro an m' b o n z ao hm V H' B aF;subst ao;obtain⟨K,s⟩:=ar hm V;have:=vL V;exact abX aF.db (λM q=>s M B (aF.av q)) ae
  refine bt (λ_=>W7 (ks.length+1)) ?_;simp only[bY.cells]at C y fM ar h7 ⊢;rw[yA];cases h with
  |par K s F=>omega
  | @int d m n p K s F=>
   simp(disch:=try exact ah)only[ai,C,gh];refine aA (abo s F) ?_;rintro _ M ⟨rfl,q⟩;refine⟨q.1,aD.2 ⟨?_,y.trans q⟩⟩;rw[eP];show _=aa.str (flat [.t ⟨2,[],n,0⟩]);simp[flat,bQ.sB,hL]
  | @bool d m n p K s=>
   rcases s with rfl|rfl
   ·simp(disch:=try exact ah)only[ai,C,gh];exact aD.2 ⟨by rw[eP];rfl,y⟩
   ·simp(disch:=try exact ah)only[ai,C,gh];exact aD.2 ⟨by rw[eP];rfl,y⟩
  | @null d m x z p K s=>
   simp(disch:=try exact ah)only[lm,yz,ai,C,gh];refine aA (sC s.1 (by have:=s.2.1;omega) (by have:=iU s;omega)) ?_;rintro _ M ⟨rfl,q⟩;refine⟨q.1,?_⟩;have ak:=lU x z;have:=iU s;have:=s.2.1;have ap:w P .add 9 Y (Z [110,117,108,108,32]) (Z (flat (cR x z)))=I (Z ([110,117,108,108,32]++flat (cR x z))):=cJ (by simp only[ef,de];omega);simp only[ap,it];exact aD.2 ⟨by rw[eP];rfl,y.trans q⟩
  | @var d m x p K s=>
   simp(disch:=try exact ah)only[ai,C,gh];exact aD.2 ⟨by rw[eP];show _=aa.str (flat [nm x]);rw[lQ,dV,pq],y⟩
  | @field d m x p e K s F=>
   obtain⟨b,o⟩:=e;obtain⟨l,i,cap,ro,els,B,rfl,G,aX,O⟩:=Q.hW (n:=1) rfl (j:=0) rfl;have E:=y.get G;simp only[bY.cells]at aX;rw[jk]at aX;rw[q9,dr]at af;simp(disch:=try exact ah)only[ai,C,gh,E,iK,aX];refine aA (h7 7 rfl (by simp) F _ B (O.av y)) ?_;rintro _ M ⟨rfl,q⟩;refine⟨q.1,?_⟩;have R:=q.get fM;have:=gR s;have ap:w P .add 9 Y (Z (flat (cC 7 (.mk b o)))) (Z [46])=I (Z (flat (cC 7 (.mk b o))++[46])):=cJ (by simp only[ef,de];omega);have aE:w P .add 9 X (Z (flat (cC 7 (.mk b o))++[46])) (Z x)=I (Z (flat (cC 7 (.mk b o))++[46]++x)):=cJ (by simp only[fg,ef,de];omega)
   simp(disch:=try exact ah)only[aR,cw,A,bL,cX,fM,R,ap,aE];exact aD.2 ⟨by rw[q9,ec,dQ,lQ,dV];simp,y.trans q⟩
  | @item d m p e f K s F=>
   obtain⟨b,o⟩:=e;obtain⟨c,cs⟩:=f;obtain⟨l,i,cap,ro,els,B,rfl,G,aX,O⟩:=Q.hW (n:=2) rfl (j:=0) rfl;obtain⟨l',a5,aY,a8,aZ,kw,aL,aq,am,ay⟩:=Q.hW (n:=2) rfl (j:=1) rfl;cases aL;rw[G]at aq;cases aq;have E:=y.get G;simp only[bY.cells]at aX am;rw[jk]at aX;rw[q_,dr,dW,dr]at af;have a7:(0:Int)<((2:Nat):Int):=ae;have dt:(1:Int)<((2:Nat):Int):=ae;simp(disch:=try exact ah)only[ai,C,gh,E,iK,aX];refine aA (h7 7 rfl (by simp) s _ B (O.av y)) ?_;rintro _ M ⟨rfl,q⟩;refine⟨q.1,?_⟩;have R:=q.get fM;have T:=q.get E;have V:=(ar (by simp) F).2 M kw (ay.av (y.trans q));simp(disch:=try exact ah)only[aR,cw,A,bL,cX,R,T,Du,am]
   refine aA V ?_;rintro _ aN ⟨rfl,S⟩;refine⟨S.1,?_⟩;have ap:w P .add 9 Y (Z (flat (cC 7 (.mk b o)))) (Z [91])=I (Z (flat (cC 7 (.mk b o))++[91])):=cJ (by simp only[ef,de];omega);have aE:w P .add 9 X (Z (flat (cC 7 (.mk b o))++[91])) (Z (flat (be (.mk c cs))))=I (Z (flat (cC 7 (.mk b o))++[91]++flat (be (.mk c cs)))):=cJ (by simp only[fg,ef,de];omega);have bB:w P .add 9 Y (Z (flat (cC 7 (.mk b o))++[91]++flat (be (.mk c cs)))) (Z [93])=I (Z (flat (cC 7 (.mk b o))++[91]++flat (be (.mk c cs))++[93])):=cJ (by simp only[fg,ef,de];omega)
   have ab:=tK (a:=c) ay.beq;simp only[bY.cells]at ab;simp(disch:=try exact ah)only[aR,cw,A,bL,fM,R,E,T,am,ap,aE,bB,ab];exact aD.2 ⟨by rw[q_,ec,dQ,ec,dQ,dV];simp,(y.trans q).trans S⟩
  | @call d m x p l K s F=>
   have:=gR s;have ap:w P .add 9 Y (Z x) (Z [40])=I (Z (x++[40])):=cJ (by simp only[ef,de];omega);rw[du]at aG;simp only at aG;by_cases ao:ks.length=0
   ·obtain rfl:=vw.1 ao;have a3:∀H',bK P H' .len [96] [kv]=I (J U 0):=by
     intro H';rcases Q with⟨rfl,_⟩|⟨l,i,cap,ro,els,rfl,_⟩|⟨l,i,cap,rfl,_⟩
     ·exact tm
     ·exact m9
     ·exact m9
    have a0:¬((0:Int)<(0:Int)):=ae;have aE:w P .add 9 Y (Z (x++[40])) (Z [41])=I (Z (x++[40]++[41])):=cJ (by simp only[fg,ef,de];omega);simp(disch:=try exact ah)only[ai,C,gh,ap,kF,pS,mj,a3,a0,decide_false,aE];exact aD.2 ⟨by rw[q8,lQ,dQ,ec,dQ,dV,di,fG,dV];simp,y⟩
   ·rcases Q with⟨_,aI⟩|⟨L,i,cap,ro,els,rfl,_,G,aM⟩|⟨_,_,_,_,aI⟩
    ·exact absurd aI ao
    ·have E:=y.get G;have bd:=JF ks;simp(disch:=try exact ah)only[ai,C,gh,ap];have key:=Ew (N:=ks.length+1) (H0:=H.push (.row X 11 [bY.cells {kind:=7,name:=x,pos:=p} (.ax L i ks.length 11 cap)])) (i:=i) (ok:=ok) fM E au (λe aC=> .inr ⟨_,F e aC⟩) ae ae ks 0 (ks.length+1) (x++[40]) _ rfl (by rw[jk];exact cU.aP (cH.av y λ_ h=>h) _ _ aM) ⟨by simp only[fg,ef,de];omega,ae⟩ ae ae (.refl _);refine key.mono ?_;rintro v M ⟨rfl,q⟩;refine⟨?_,y.trans q⟩;rw[q8,lQ,dQ,ec,dQ,dV];cases ks with
     |nil=>exact absurd rfl ao
     |cons k r=>simp[sq]
    ·exact absurd aI ao
  | @new d m x p K s=>
   have:=gR s;have ap:w P .add 9 Y (Z [110,101,119,32]) (Z x)=I (Z ([110,101,119,32]++x)):=cJ (by simp only[ef,de];omega);simp(disch:=try exact ah)only[ai,C,gh,ap];exact aD.2 ⟨by rw[eP];show _=aa.str (flat [wd [110,101,119],b9,nm x]);rw[iB,ft,lQ,dV];simp,y⟩
  | @make d m x z p e K s F=>
   obtain⟨b,o⟩:=e;obtain⟨l,i,cap,ro,els,B,rfl,G,aX,O⟩:=Q.hW (n:=1) rfl (j:=0) rfl;have E:=y.get G;simp only[bY.cells]at aX;rw[jk]at aX;rw[rb,iT,fN,dW,dr,dW,dW,dr]at af;simp(disch:=try exact ah)only[lm,yz,ai,C,gh];refine aA (sC s.1 (by have:=s.2.1;omega) (by have:=iU s;omega)) ?_;rintro _ M ⟨rfl,q⟩;refine⟨q.1,?_⟩;have R:=q.get fM;have T:=q.get E;have V:=(ar (by simp) F).2 M B (O.av (y.trans q));simp(disch:=try exact ah)only[aR,cw,A,bL,cX,R,T,iK,aX];refine aA V ?_;rintro _ aN ⟨rfl,S⟩;refine⟨S.1,?_⟩;have ap:w P .add 9 Y (Z [110,101,119,32,91]) (Z (flat (cR x z)))=I (Z ([110,101,119,32,91]++flat (cR x z))):=cJ (by simp only[ef,de];omega)
   have aE:w P .add 9 Y (Z ([110,101,119,32,91]++flat (cR x z))) (Z [93,40])=I (Z ([110,101,119,32,91]++flat (cR x z)++[93,40])):=cJ (by simp only[fg,ef,de];omega);have bB:w P .add 9 X (Z ([110,101,119,32,91]++flat (cR x z)++[93,40])) (Z (flat (be (.mk b o))))=I (Z ([110,101,119,32,91]++flat (cR x z)++[93,40]++flat (be (.mk b o)))):=cJ (by simp only[fg,ef,de];omega);have cc:w P .add 9 Y (Z ([110,101,119,32,91]++flat (cR x z)++[93,40]++flat (be (.mk b o)))) (Z [41])=I (Z ([110,101,119,32,91]++flat (cR x z)++[93,40]++flat (be (.mk b o))++[41])):=cJ (by simp only[fg,ef,de];omega)
   have ab:=tK (a:=b) O.beq;simp only[bY.cells]at ab;rw[ap,it,aE,it,bB,it,cc,it];simp(disch:=try exact ah)only[aR,cw,A,bL,fM,R,E,T,aX,ab];exact aD.2 ⟨by rw[rb,iB,ft,dQ,ec,dQ,dQ,ec,dQ,dV];simp,(y.trans q).trans S⟩
  | @len d m p e K s=>
   obtain⟨b,o⟩:=e;obtain⟨l,i,cap,ro,els,B,rfl,G,aX,O⟩:=Q.hW (n:=1) rfl (j:=0) rfl;have E:=y.get G;simp only[bY.cells]at aX;rw[jk]at aX;rw[ra,iT,dW,dr]at af;simp(disch:=try exact ah)only[ai,C,gh,E,iK,aX];refine aA ((ar (by simp) s).2 _ B (O.av y)) ?_;rintro _ M ⟨rfl,q⟩;refine⟨q.1,?_⟩;have ap:w P .add 9 Y (Z [108,101,110,40]) (Z (flat (be (.mk b o))))=I (Z ([108,101,110,40]++flat (be (.mk b o)))):=cJ (by simp only[ef,de];omega);have aE:w P .add 9 Y (Z ([108,101,110,40]++flat (be (.mk b o)))) (Z [41])=I (Z ([108,101,110,40]++flat (be (.mk b o))++[41])):=cJ (by simp only[fg,ef,de];omega)
   rw[ap,it,aE,it];exact aD.2 ⟨by rw[ra,iB,dQ,ec,dQ,dV];simp,y.trans q⟩
  | @read d m p K=>
   simp(disch:=try exact ah)only[ai,C,gh];exact aD.2 ⟨by rw[eP];rfl,y⟩
  | @sign d m k p e K s F=>
   obtain⟨b,o⟩:=e;obtain⟨l,i,cap,ro,els,B,rfl,G,aX,O⟩:=Q.hW (n:=1) rfl (j:=0) rfl;have E:=y.get G;simp only[bY.cells]at aX;rw[jk]at aX;rw[oZ s,dW]at af;rcases s with rfl|rfl
   ·simp(disch:=try exact ah)only[ai,C,gh,E,iK,aX];refine aA (h7 6 rfl (by simp) F _ B (O.av y)) ?_;rintro _ M ⟨rfl,q⟩;refine⟨q.1,?_⟩;have ap:w P .add 9 Y (Z [45]) (Z (flat (cC 6 (.mk b o))))=I (Z ([45]++flat (cC 6 (.mk b o)))):=cJ (by simp only[ef,de];omega);rw[ap,it];exact aD.2 ⟨by rw[oZ (.inl rfl),dQ];rfl,y.trans q⟩
   ·simp(disch:=try exact ah)only[ai,C,gh,E,iK,aX];refine aA (h7 6 rfl (by simp) F _ B (O.av y)) ?_;rintro _ M ⟨rfl,q⟩;refine⟨q.1,?_⟩;have ap:w P .add 9 Y (Z [33]) (Z (flat (cC 6 (.mk b o))))=I (Z ([33]++flat (cC 6 (.mk b o)))):=cJ (by simp only[ef,de];omega);rw[ap,it];exact aD.2 ⟨by rw[oZ (.inr rfl),dQ];rfl,y.trans q⟩
  | @bin d m k p e f K s F a1 a2=>
   obtain⟨b,o⟩:=e;obtain⟨c,cs⟩:=f;obtain⟨l,i,cap,ro,els,B,rfl,G,aX,O⟩:=Q.hW (n:=2) rfl (j:=0) rfl;obtain⟨l',a5,aY,a8,aZ,kw,aL,aq,am,ay⟩:=Q.hW (n:=2) rfl (j:=1) rfl;cases aL;rw[G]at aq;cases aq;have E:=y.get G;have aV:=λH'=>Kl (H:=H') (a:={kind:=k,pos:=p}) (kv:= .ax l i (0+1+1) 11 cap) rfl
   simp only[bY.cells]at aX am aV;rw[jk]at aX;rw[q7 s,dr,fN,dW,fN]at af;have bc:=JE s F;have a7:(0:Int)<((2:Nat):Int):=ae;have dt:(1:Int)<((2:Nat):Int):=ae;have eb:∀m:Int,m<14->(k==m)=false:=λm h=>by simp;omega
   have aM:IntKind.i64.wrap (((cW k:Nat):Int)+1)=((cW k+1:Nat):Int):=by have:=Kn k;rw[wrap_i64 ae ae];omega
   simp(disch:=try exact ah)only[lm,ai,C,eb 1 ae,eb 2 ae,eb 3 ae,eb 4 ae,eb 5 ae,eb 6 ae,eb 7 ae,eb 8 ae,eb 9 ae,eb 10 ae,eb 11 ae,eb 12 ae,eb 13 ae];unfold lx;simp(disch:=try exact ah)only[ai,fM];refine aA (aV _) ?_;rintro _ M ⟨rfl,q⟩;refine⟨q.1,?_⟩;have R:=q.get fM;have T:=q.get E;simp(disch:=try exact ah)only[aR,cw,A,bL,cX,R,T,iK,aX];refine aA (h7 (cW k) rfl (by simp) a1 _ B (O.av (y.trans q))) ?_;rintro _ aN ⟨rfl,S⟩;refine⟨S.1,?_⟩;have aK:=S.get R;have aO:=S.get T;simp(disch:=try exact ah)only[aR,cw,A,bL,cX,aK];refine aA (aaO s F) ?_;rintro _ a9 ⟨rfl,aB⟩;refine⟨aB.1,?_⟩;have aS:=aB.get aK
   have aQ:=aB.get aO;simp(disch:=try exact ah)only[aR,cw,A,bL,cX,aS,aQ,Du,am,b8,aM];refine aA (h7 (cW k+1) rfl (by simp) a2 _ kw (ay.av (((y.trans q).trans S).trans aB))) ?_;rintro _ ba ⟨rfl,aW⟩;refine⟨aW.1,?_⟩;have ap:w P .add 9 Y (Z (flat (cC (cW k) (.mk b o)))) (Z [32])=I (Z (flat (cC (cW k) (.mk b o))++[32])):=cJ (by simp only[ef,de];omega);have aE:w P .add 9 X (Z (flat (cC (cW k) (.mk b o))++[32])) (Z (gB k))=I (Z (flat (cC (cW k) (.mk b o))++[32]++gB k)):=cJ (by simp only[fg,ef,de];omega)
   have bB:w P .add 9 Y (Z (flat (cC (cW k) (.mk b o))++[32]++gB k)) (Z [32])=I (Z (flat (cC (cW k) (.mk b o))++[32]++gB k++[32])):=cJ (by simp only[fg,ef,de];omega);have cc:w P .add 9 X (Z (flat (cC (cW k) (.mk b o))++[32]++gB k++[32])) (Z (flat (cC (cW k+1) (.mk c cs))))=I (Z (flat (cC (cW k) (.mk b o))++[32]++gB k++[32]++flat (cC (cW k+1) (.mk c cs)))):=cJ (by simp only[fg,ef,de];omega);have ab:=tK (a:=c) ay.beq;simp only[bY.cells]at ab;rw[ap,it,aE,it,bB,it,cc,it];simp(disch:=try exact ah)only[aR,cw,A,bL,R,aK,aS,T,aO,aQ,am,ab]
   exact aD.2 ⟨by rw[q7 s,ec,ft,dQ,ft];simp,(((y.trans q).trans S).trans aB).trans aW⟩
section
set_option maxRecDepth 100000
noncomputable section
def lv(c:e)(N:Nat)(a:aa)(H:ad):O:=some (a,H)
def Zd(a:e)(N:Nat):∀V H,a7 P a N (L (L (L (L (L (n Tryz.f39)))))) (p Tryz.f39) [] (p Tryz.f39) V H=lv a N (V 5) H:=by
 refine bm (q _) λV H=> ?_
 delta lv;kernel_rfl
def nM(i:e)(N:Nat)(a:aa->aa->aa->aa->aa->ad->O)(F y:aa)(d aJ h:aa)(H:ad):O:=C (w P .add 3 Y h (J U 1)) λc=>a F y d aJ c H
def Ze(a:e)(N:Nat)(c:aa->aa->aa->aa->aa->ad->O):∀V H,a7 P a N (L (L (d (d (L (d (L (L (L (L (n Tryz.f39))))))))))) (λV H=>c (V 0) (V 1) (V 5) (V 6) (V 8) H) [(2,(λV H=>lv a N (V 5) H))] (p Tryz.f39) V H=nM a N c (V 0) (V 1) (V 5) (V 6) (V 8) H:=by
 refine bm (q _) λV H=> ?_
 delta nM;kernel_rfl
def hn(a:e)(N:Nat)(c:aa->aa->aa->aa->aa->ad->O)(F y:aa)(h aJ i:aa)(H:ad):O:=C (w P .add 9 Y h (Z [10])) λd=>nM a N c F y d aJ i H
def Zf(a:e)(N:Nat)(c:aa->aa->aa->aa->aa->ad->O):∀V H,a7 P a N (L (L (L (d (d (L (d (d (L (d (L (L (L (L (n Tryz.f39))))))))))))))) (λV H=>nM a N c (V 0) (V 1) (V 5) (V 6) (V 8) H) [(3,(λV H=>nM a N c (V 0) (V 1) (V 5) (V 6) (V 8) H)),(2,(λV H=>lv a N (V 5) H))] (p Tryz.f39) V H=hn a N c (V 0) (V 1) (V 5) (V 6) (V 8) H:=by
 refine bm (q _) λV H=> ?_
 delta hn;generalize nM a N c=h;revert h;refine id ?_;intro h;kernel_rfl
def pK(a:e)(N:Nat)(c:aa->aa->aa->aa->aa->ad->O)(F y:aa)(h aJ i:aa)(H:ad):O:=C (w P .add 9 Y h (Z [59])) λd=>hn a N c F y d aJ i H
def Zg(a:e)(N:Nat)(c:aa->aa->aa->aa->aa->ad->O):∀V H,a7 P a N (L (L (d (L (L (L (L (L (L (L (L (L (d (L (d (L (L (d (d (L (d (d (L (d (L (L (L (L (n Tryz.f39))))))))))))))))))))))))))))) (λV H=>hn a N c (V 0) (V 1) (V 5) (V 6) (V 8) H) [(4,(λV H=>hn a N c (V 0) (V 1) (V 5) (V 6) (V 8) H)),(3,(λV H=>nM a N c (V 0) (V 1) (V 5) (V 6) (V 8) H)),(2,(λV H=>lv a N (V 5) H))] (p Tryz.f39) V H=pK a N c (V 0) (V 1) (V 5) (V 6) (V 8) H:=by
 refine bm (q _) λV H=> ?_
 delta pK;generalize hn a N c=h;revert h;refine id ?_;intro h;kernel_rfl
def iI(d:e)(N:Nat)(m:aa->aa->aa->aa->aa->ad->O)(F y:aa)(af aJ l:aa)(H:ad):O:=bU P .len [44] [F] H λbw=>C (w P .lss 3 X l bw) λbx=>aO (I bx) (C (bX P 44 F l) λbz=>C (A P H 98 bz) λbA=>bn H [J U 0,Z [],Z [],J U 0,aa.ag,aa.ag,aa.ag,J U 0,J U 0] λh ab=>aG ab (aB P ab 98 h bA) λa=>C (w P .add 9 X af aJ) λn=>C (j P 98 h 0) λbB=>C (A P a 3 bB) λo=>C (w P .eql 3 Y o (J U 1)) λbC=>aO (I bC) (C (j P 98 h 2) λbG=>C (A P a 43 bG) λbH=>i a (d 38 [bH] a) λbI c=>C (w P .add 9 Y n (Z [118,97,114,32])) λbD=>C (j P 98 h 1) λB=>C (A P c 9 B) λE=>C (w P .add 9 X bD E) λbE=>C (w P .add 9 Y bE (Z [58,32])) λbF=>C (w P .add 9 X bF bI) λbJ=>C (w P .add 9 Y bJ (Z [59])) λbK=>bif ((aZ (A P a 9 B) E&&aZ (A P c 9 B) E)&&Y)then(hn d N m F y bK aJ l c)else u) (C (w P .eql 3 Y o (J U 2)) λbL=>aO (I bL) (C (j P 98 h 2) λbP=>C (A P a 43 bP) λbQ=>i a (d 38 [bQ] a) λbR c=>C (j P 98 h 3) λG=>C (A P c 96 G) λK=>C (bX P 96 K (J U 0)) λL=>C (A P c 103 L) λM=>i c (d 63 [M] c) λbV k=>C (w P .add 9 Y n (Z [108,101,116,32])) λbM=>C (j P 98 h 1) λp=>C (A P k 9 p) λq=>C (w P .add 9 X bM q) λbN=>C (w P .add 9 Y bN (Z [58,32])) λbO=>C (w P .add 9 X bO bR) λbS=>C (w P .add 9 Y bS (Z [32,61,32])) λbT=>C (w P .add 9 X bT bV) λbW=>C (w P .add 9 Y bW (Z [59])) λbY=>bif ((aZ (A P a 96 G) K&&(aZ (A P c 96 G) K&&Y))&&((aZ (A P a 103 L) M&&(aZ (A P c 103 L) M&&Y))&&((aZ (A P a 9 p) q&&(aZ (A P c 9 p) q&&aZ (A P k 9 p) q))&&Y)))then(hn d N m F y bY aJ l k)else u) (C (w P .eql 3 Y o (J U 3)) λbZ=>aO (I bZ) (C (j P 98 h 3) λb2=>C (A P a 96 b2) λb3=>C (bX P 96 b3 (J U 0)) λb4=>C (A P a 103 b4) λb5=>i a (d 63 [b5] a) λb6 c=>C (j P 98 h 1) λQ=>C (A P c 9 Q) λR=>C (w P .add 9 X n R) λb0=>C (w P .add 9 Y b0 (Z [32,61,32])) λb1=>C (w P .add 9 X b1 b6) λb7=>C (w P .add 9 Y b7 (Z [59])) λb8=>bif ((aZ (A P a 9 Q) R&&aZ (A P c 9 Q) R)&&Y)then(hn d N m F y b8 aJ l c)else u) (C (w P .eql 3 Y o (J U 4)) λb9=>aO (I b9) (C (j P 98 h 3) λb_=>C (A P a 96 b_) λca=>C (bX P 96 ca (J U 0)) λcb=>C (A P a 103 cb) λcc=>i a (d 63 [cc] a) λcd c=>C (j P 98 h 3) λS=>C (A P c 96 S) λT=>C (bX P 96 T (J U 1)) λV=>C (A P c 103 V) λW=>i c (d 63 [W] c) λcg k=>C (w P .add 9 X n cd) λce=>C (w P .add 9 Y ce (Z [32,61,32])) λcf=>C (w P .add 9 X cf cg) λch=>C (w P .add 9 Y ch (Z [59])) λci=>bif ((aZ (A P a 96 S) T&&(aZ (A P c 96 S) T&&Y))&&((aZ (A P a 103 V) W&&(aZ (A P c 103 V) W&&Y))&&Y))then(hn d N m F y ci aJ l k)else u) (C (w P .eql 3 Y o (J U 7)) λcj=>aO (I cj) (C (w P .add 9 Y n (Z [114,101,116,117,114,110])) λah=>C (j P 98 h 3) λaj=>C (A P a 96 aj) λak=>bU P .len [96] [ak] a λal=>C (w P .gtr 3 Y al (J U 0)) λam=>aO (I am) (C (w P .add 9 Y ah (Z [32])) λan=>C (j P 98 h 3) λao=>C (A P a 96 ao) λap=>C (bX P 96 ap (J U 0)) λaq=>C (A P a 103 aq) λar=>i a (d 63 [ar] a) λau c=>C (w P .add 9 X an au) λav=>pK d N m F y av aJ l c) (pK d N m F y ah aJ l a)) (C (w P .eql 3 Y o (J U 8)) λaw=>aO (I aw) (C (w P .add 9 Y n (Z [112,114,105,110,116,32])) λay=>C (j P 98 h 3) λaz=>C (A P a 96 az) λaA=>C (bX P 96 aA (J U 0)) λaC=>C (A P a 103 aC) λaD=>i a (d 63 [aD] a) λaE c=>C (w P .add 9 X ay aE) λaF=>C (w P .add 9 Y aF (Z [59])) λaH=>hn d N m F y aH aJ l c) (C (w P .eql 3 Y o (J U 9)) λaI=>aO (I aI) (C (j P 98 h 3) λaK=>C (A P a 96 aK) λaL=>C (bX P 96 aL (J U 0)) λaM=>C (A P a 103 aM) λaN=>i a (d 63 [aN] a) λaP c=>C (w P .add 9 X n aP) λaQ=>C (w P .add 9 Y aQ (Z [59])) λaR=>hn d N m F y aR aJ l c) (C (w P .eql 3 Y o (J U 6)) λaS=>aO (I aS) (C (j P 98 h 3) λaU=>C (A P a 96 aU) λaV=>C (bX P 96 aV (J U 0)) λaW=>C (A P a 103 aW) λaX=>i a (d 63 [aX] a) λaY c=>C (j P 98 h 4) λs=>C (A P c 44 s) λv=>C (w P .add 3 Y y (J U 1)) λa2=>i c (d 39 [v,a2] c) λa3 k=>C (w P .add 9 Y n (Z [119,104,105,108,101,32])) λaT=>C (w P .add 9 X aT aY) λa0=>C (w P .add 9 Y a0 (Z [32,123,10])) λa1=>C (w P .add 9 X a1 a3) λa4=>C (w P .add 9 X a4 aJ) λa5=>C (w P .add 9 Y a5 (Z [125])) λa6=>bif ((aZ (A P a 44 s) v&&(aZ (A P c 44 s) v&&Y))&&Y)then(hn d N m F y a6 aJ l k)else u) (C (w P .eql 3 Y o (J U 5)) λa7=>aO (I a7) (C (j P 98 h 3) λa9=>C (A P a 96 a9) λa_=>C (bX P 96 a_ (J U 0)) λba=>C (A P a 103 ba) λbb=>i a (d 63 [bb] a) λbc c=>C (j P 98 h 4) λx=>C (A P c 44 x) λz=>C (w P .add 3 Y y (J U 1)) λbf=>i c (d 39 [z,bf] c) λbg k=>C (w P .add 9 Y n (Z [105,102,32])) λa8=>C (w P .add 9 X a8 bc) λbd=>C (w P .add 9 Y bd (Z [32,123,10])) λbe=>C (w P .add 9 X be bg) λbh=>C (w P .add 9 X bh aJ) λbi=>C (w P .add 9 Y bi (Z [125])) λae=>bif ((aZ (A P a 44 x) z&&(aZ (A P c 44 x) z&&Y))&&Y)then(C (j P 98 h 5) λbj=>C (A P k 44 bj) λbk=>bU P .len [44] [bk] k λbl=>C (w P .gtr 3 Y bl (J U 0)) λbm=>aO (I bm) (C (w P .add 9 Y ae (Z [32,101,108,115,101,32,123,10])) λbo=>C (j P 98 h 5) λbp=>C (A P k 44 bp) λbq=>C (w P .add 3 Y y (J U 1)) λbr=>i k (d 39 [bq,br] k) λbs ai=>C (w P .add 9 X bo bs) λbt=>C (w P .add 9 X bt aJ) λbu=>C (w P .add 9 Y bu (Z [125])) λbv=>hn d N m F y bv aJ l ai) (hn d N m F y ae aJ l k))else u) (hn d N m F y n aJ l a)))))))))) (lv d N af H)
def gX(a:e)(N:Nat):Nat->aa->aa->aa->aa->aa->ad->O
 |0,_,_,_,_,_,_=>u
 |n+1,F,y,c,aJ,d,H=>iI a N (gX a N n) F y c aJ d H
def Za(a:e)(N:Nat)(c:aa->aa->aa->aa->aa->ad->O):∀V H,a7 P a N (d (d (L (d (L (L (L (L (n Tryz.f39))))))))) (λV H=>c (V 0) (V 1) (V 5) (V 6) (V 8) H) [(2,(λV H=>lv a N (V 5) H))] (p Tryz.f39) V H=iI a N c (V 0) (V 1) (V 5) (V 6) (V 8) H:=by
 refine bm ((Q M ((Q M (Ze a N c) ((cn M ((Q M ((Q M ((Q M (Zf a N c) ((Q M ((cn M ((Q M ((e6 M (q _) ((Q M ((e6 M (q _) ((Q M ((e6 M (q _) ((Q M ((e6 M (q _) ((Q M ((e6 M ((Q M ((Q M (Zg a N c) (q _))) (q _))) (q _))) (q _))))) (q _))))) (q _))))) (q _))))) (q _))))) (q _))))) (q _))) (q _))))))) (q _))) λV H=> ?_
 delta iI;generalize lv a N=h;generalize pK a N c=i;generalize hn a N c=j;revert h i j;refine id ?_;intro h i j;kernel_rfl
def rV(a:e)(N:Nat)(F y:aa)(c aJ:aa)(H:ad):O:=gX a N N F y c aJ (J U 0) H
def Zc(a:e)(N:Nat):∀V H,a7 P a N (L (L (L (L (n Tryz.f39))))) (p Tryz.f39) [] (p Tryz.f39) V H=rV a N (V 0) (V 1) (V 5) (V 6) H:=by
 refine bm ((Q M (Zd a N) ((Q M ((cn M ((cY (k:=λm V H=>gX a N m (V 0) (V 1) (V 5) (V 6) (V 8) H) M (λV H=>M) (λm=>Za a N (gX a N m)))))) (q _))))) λV H=> ?_
 delta rV;generalize gX a N N=c;revert c;refine id ?_;intro c;kernel_rfl
def uz(d:e)(N:Nat)(h:aa->aa->aa->aa->aa->ad->O)(F y:aa)(a aJ c:aa)(H:ad):O:=C (w P .lss 3 X c y) λi=>aO (I i) (C (w P .add 9 Y aJ (Z [32,32])) λk=>C (w P .add 3 Y c (J U 1)) λj=>h F y a k j H) (rV d N F y a aJ H)
def nN(a:e)(N:Nat):Nat->aa->aa->aa->aa->aa->ad->O
 |0,_,_,_,_,_,_=>u
 |n+1,F,y,c,aJ,d,H=>uz a N (nN a N n) F y c aJ d H
def Zb(a:e)(N:Nat)(h:aa->aa->aa->aa->aa->ad->O):∀V H,a7 P a N (d (d (L (d (L (L (L (n Tryz.f39)))))))) (λV H=>h (V 0) (V 1) (V 5) (V 6) (V 7) H) [(0,(λV H=>rV a N (V 0) (V 1) (V 5) (V 6) H))] (p Tryz.f39) V H=uz a N h (V 0) (V 1) (V 5) (V 6) (V 7) H:=by
 refine bm (q _) λV H=> ?_
 delta uz;generalize rV a N=c;revert c;refine id ?_;intro c;kernel_rfl
def yi(a:e)(N:Nat)(F y:aa)(H:ad):O:=nN a N N F y (Z []) (Z []) (J U 0) H
def WI(N:Nat){F y:aa}{H:ad}{r:aa×ad}(h:yi (al P aj) N F y H=I r):al P aj 39 [F,y] H=I r:=bu N (S:=λa=>yi a N F y H) Tryz.func39 (λa=>cG ((Q M ((Q M ((Q M ((Q M (Zc a N) ((Q M ((cn M ((cY (k:=λm V H=>nN a N m (V 0) (V 1) (V 5) (V 6) (V 7) H) M (λV H=>M) (λm=>Zb a N (nN a N m)))))) (q _))))) (q _))) (q _))) (q _))) (by delta yi;generalize nN a N N=c;revert c;refine id ?_;intro c;kernel_rfl)) h
end
end
def mP(b:List a6):Prop:=∀(d deep:Nat),(∀s∈b,en d s)->deep+d<=51->dN b<=1000000000->∀(H:ad) (ok:Nat->Prop) (v:aa) (z:Int),z=deep->cj H ok b v->W (al P aj 39 [v,J U z] H) λr H'=>r= Z (flat (bN deep b))/\aw H H'
def th{d deep:Nat}{b:List a6}(h:∀s∈b,en d s)(a:deep+d<=51):(flat (bN deep b)).length<=dN b:=ti b λs au=>JD (h s au) deep a
def cj.beq{H:ad}{ok:Nat->Prop}{ks:List a6}{kv:aa}(h:cj H ok ks kv):aa.beq kv kv=true:=by
 rcases h with⟨rfl,_⟩|⟨l,i,cap,ro,els,rfl,_⟩|⟨l,i,cap,rfl,_⟩<;>simp[aa.beq]
def B9{v:aa}(h:aa.beq v v=Y):aZ (I v) v=true:=by simp[aZ,h]
def AF(x:ay)(l:List bQ):flat (.b x::l)=x++flat l:=rfl
def oC(l:List bQ):flat (nl::l)=[10]++flat l:=rfl
def AG(x o:ay)(z:Int)(l:List bQ):flat (eK x o z++l)=x++([58,32]++(flat (cR o z)++flat l)):=by
 unfold eK;rw[mn,mn,mn,lQ,dQ,ft,ec];rfl
def s7(d:ay)(B l:List bQ):flat (dC d B++l)=[32,123,10]++(flat B++(d++([125]++flat l))):=by
 unfold dC;rw[mn,mn,mn,ft,dQ,oC,ec,ec,AF,dQ,dV];simp
def Kc{N:Nat}{L i n:Nat}{cap:Option Nat}{ro:Bool}{els:List (List aa)}{ok:Nat->Prop}{H0:ad}{d deep:Nat}(a3:deep+d<=51)(a4:H0.get L=I (.row ro 9 els))(bs:n<=1000000000):∀(es:List a6) (j k:Nat) (acc:ay) (H:ad),(∀a ks b c,a6.mk a ks b c∈es->mP b/\mP c)->(∀s∈es,en d s)->dy H0 ok es (els.drop (i+j))->acc.length+dN es<=2000000000/\dN es<=1000000000->n=j+es.length->es.length<k->aw H0 H->
  W (gX (al P aj) N k (.ax L i n 9 cap) (J U deep) (Z acc) (Z (pad deep)) (J U j) H) λv H'=>v= Z (acc++flat (bN deep es))/\aw H0 H'
 |_,_,0,_,_,_,_,_,_,_,aT,_=>ae
 |[],j,k+1,acc,H,au,aU,aZ,a2,aS,aT,aN=>by
  have Q:¬((j:Int)<(n:Int)):=by simp at aS;omega
  simp(disch:=try exact ah)only[gX,iI,lv,ai,Q,decide_false];exact aD.2 ⟨by rw[bN,dV,pq],aN⟩
 | .mk a ks b c::es,j,k+1,acc,H,au,aU,aZ,a2,aS,aT,aN=>by
  simp only[ef]at aS aT;have Q:(j:Int)<(n:Int):=ae;have aq:((j:Int)).toNat=j:=ae;have bL:(0:Int)<=(j:Int):=ae;have bG:IntKind.i64.wrap ((j:Int)+1)=((j+1:Nat):Int):=by rw[wrap_i64 ae ae];omega
  have aW:IntKind.i64.wrap ((deep:Int)+1)=((deep+1:Nat):Int):=by rw[wrap_i64 ae ae];omega
  obtain⟨cs,aX,bD,bE⟩:=aZ.cons;obtain⟨ev,aE,aF,ap,O,v2,v3⟩:=mS.1 bD;cases ap;obtain⟨bd,bC⟩:=au a ks b c (by simp);have a9:=aU (.mk a ks b c) (by simp);have bS:=JD a9 deep a3;have bT:=iD deep;rw[dN]at a2;have a5:dX deep (.mk a ks b c)= .b (pad deep)::(fO a ks (bN (deep+1) b) c.isEmpty (bN (deep+1) c) (pad deep)++[nl]):=by rw[dX]
  have bQ:ch ks+dN b+dN c+400<=e7 (.mk a ks b c):=by rw[e7];omega
  have fin:∀(aM:ay) (H':ad),aM=acc++(pad deep++flat (fO a ks (bN (deep+1) b) c.isEmpty (bN (deep+1) c) (pad deep)))->aw H0 H'->W (hn (al P aj) N (gX (al P aj) N k) (.ax L i n 9 cap) (J U deep) (Z aM) (Z (pad deep)) (J U j) H') λv bh=>v= Z (acc++flat (bN deep (.mk a ks b c::es)))/\aw H0 bh:=by
   intro aM H' a0 bB;have aQ:flat (dX deep (.mk a ks b c))=pad deep++(flat (fO a ks (bN (deep+1) b) c.isEmpty (bN (deep+1) c) (pad deep))++[10]):=by rw[a5,AF,ec,oC,dV];rfl
   have bM:aM.length+1=acc.length+(flat (dX deep (.mk a ks b c))).length:=by rw[a0,aQ];simp only[fg,ef,de];omega
   simp(disch:=try exact dz)only[hn,nM,aR,b8,cJ,bG];refine(Kc a3 a4 bs es (j+1) k _ H' (λa ks b c h=>au a ks b c (by simp[h])) (λs h=>aU s (by simp[h])) bE ⟨by simp only[fg,ef,de];omega,ae⟩ ae ae bB).mono ?_;rintro v S ⟨rfl,y⟩;refine⟨?_,y⟩;rw[bN,ec,aQ,a0];simp only[hi]
  have m:=aN.a1 (.row X 9 [a.cells ev aE aF]);have A:=ad.a_ H (.row X 9 [a.cells ev aE aF]);have T:=aN.get a4;have br:=O.db;have bI:=v2.db;have b2:=v3.db;have bw:=O.av m;have bx:=v2.av m;have bz:=v3.av m;have am:∀{e:az} {r:List az},ks=e::r->du e<=ch ks:=by intro e r h;rw[h,ch];omega
  have bn:∀{e f:az} {r:List az},ks=e::f::r->du e+du f<=ch ks:=by intro e f r h;rw[h,ch,ch];omega
  have bU:=B9 O.beq;have bf:=B9 v2.beq;have bV:=B9 v3.beq;simp only[bR.cells]at aX m A bw bx bz;have bP:(H.push (.row X 9 [[J U 0,Z [],Z [],J U 0,.ag,.ag,.ag,J U 0,J U 0]])).set H.next (.row X 9 [[J U a.kind,Z a.name,Z a.b5,J U a.ci,ev,aE,aF,J U a.pos,J U a.ref]])=H.push (.row X 9 [[J U a.kind,Z a.name,Z a.b5,J U a.ci,ev,aE,aF,J U a.pos,J U a.ref]]):=ad.hG H _ _
  clear a5;cases a9 with
  | @var d x o z p aK ar=>
   have ba:=gR aK;have bt:=iU ar;have bv:=ar.2.1;have bu:=lU o z;simp(disch:=try exact dz)only[gX,iI,lm,yz,ai,Q,decide_true,aq,T,aX,br,bI,b2,A,gh,cJ];refine aA (sC ar.1 ae ae) ?_;rintro _ R ⟨rfl,q⟩;refine⟨q.1,?_⟩;have F:=q.get A;simp(disch:=try exact dz)only[ai,A,F,cJ];refine fin _ R ?_ (m.trans q);show _=acc++(pad deep++flat (wd mH::b9::(eK x o z++[bp [59]])));rw[iB,ft,AG,dQ,dV];simp[mH]
  | @lets d x o z p e aK ar B=>
   obtain⟨g,G⟩:=e;have ba:=gR aK;have bt:=iU ar;have bv:=ar.2.1;have bu:=lU o z;have ao:=am rfl;have an:=hD B;obtain⟨l,aB,V,aC,ab,M,rfl,C,w,K⟩:=O.hW (n:=1) rfl (j:=0) rfl;simp only[bY.cells]at w;rw[jk]at w;simp(disch:=try exact dz)only[gX,iI,lm,yz,ai,Q,decide_true,aq,T,aX,br,bI,b2,A,gh,cJ];refine aA (sC ar.1 ae ae) ?_;rintro _ R ⟨rfl,q⟩;refine⟨q.1,?_⟩;have F:=q.get A;have af:=(m.trans q).get C;have E:=m.get C;simp(disch:=try exact ah)only[ai,F,af,iK,w];refine aA (aJ _ _ _ B ae _ _ rfl R ok M (K.av (m.trans q))) ?_;rintro _ S ⟨rfl,y⟩;refine⟨y.1,?_⟩;have ak:=y.get F
   have bj:=y.get af;have aL:=tK (a:=g) K.beq;simp only[bY.cells]at aL;simp(disch:=try exact dz)only[ai,A,F,ak,E,af,cJ,w,aL];refine fin _ S ?_ ((m.trans q).trans y);show _=acc++(pad deep++flat (wd mF::b9::(eK x o z++b9::bp [61]::b9::(be (.mk g G)++[bp [59]]))));rw[iB,ft,AG,ft,dQ,ft,ec,dQ,dV];simp[mF]
  | @set d x p e aK B=>
   obtain⟨g,G⟩:=e;have ba:=gR aK;have ao:=am rfl;have an:=hD B;obtain⟨l,aB,V,aC,ab,M,rfl,C,w,K⟩:=O.hW (n:=1) rfl (j:=0) rfl;simp only[bY.cells]at w;rw[jk]at w;have E:=m.get C;simp(disch:=try exact dz)only[gX,iI,lm,ai,Q,decide_true,aq,T,aX,br,bI,b2,A,gh,cJ,E,iK,w];refine aA (aJ _ _ _ B ae _ _ rfl _ ok M (K.av m)) ?_;rintro _ S ⟨rfl,y⟩;refine⟨y.1,?_⟩;have ak:=y.get A;simp(disch:=try exact dz)only[ai,A,ak,cJ];refine fin _ S ?_ (m.trans y);show _=acc++(pad deep++flat (nm x::b9::bp [61]::b9::(be (.mk g G)++[bp [59]])));rw[lQ,ft,dQ,ft,ec,dQ,dV];simp
  | @put d p e f bo B a8=>
   obtain⟨g,G⟩:=e;obtain⟨bg,bF⟩:=f;have ao:=bn rfl;have an:=hD B;have aQ:=hD a8;obtain⟨l,aB,V,aC,ab,M,rfl,C,w,K⟩:=O.hW (n:=2) rfl (j:=0) rfl;obtain⟨bA,i2,bH,bW,bJ,kw,bq,aY,aV,bb⟩:=O.hW (n:=2) rfl (j:=1) rfl;cases bq;rw[C]at aY;cases aY;simp only[bY.cells]at w aV;rw[jk]at w;have bA:(0:Int)<((2:Nat):Int):=ae;have dt:(1:Int)<((2:Nat):Int):=ae;have E:=m.get C;simp(disch:=try exact dz)only[gX,iI,lm,ai,Q,decide_true,aq,T,aX,br,bI,b2,A,gh,cJ,E,iK,w];refine aA (aJ _ _ _ B ae _ _ rfl _ ok M (K.av m)) ?_;rintro _ R ⟨rfl,q⟩;refine⟨q.1,?_⟩;have F:=q.get A;have af:=q.get E;simp(disch:=try exact ah)only[ai,F,af,Du,aV]
   refine aA (aJ _ _ _ a8 ae _ _ rfl _ ok kw (bb.av (m.trans q))) ?_;rintro _ S ⟨rfl,y⟩;refine⟨y.1,?_⟩;have ak:=y.get F;have bj:=y.get af;have aL:=tK (a:=bg) bb.beq;simp only[bY.cells]at aL;simp(disch:=try exact dz)only[ai,A,F,E,af,cJ,aV,aL];refine fin _ S ?_ ((m.trans q).trans y);show _=acc++(pad deep++flat (be (.mk g G)++b9::bp [61]::b9::(be (.mk bg bF)++[bp [59]])));rw[ec,ft,dQ,ft,ec,dQ,dV];simp
  | @ifs d p e b c B aI a7=>
   obtain⟨g,G⟩:=e;have ao:=am rfl;have an:=hD B;have bk:=th (deep:=deep+1) aI ae;have bO:=th (deep:=deep+1) a7 ae;obtain⟨l,aB,V,aC,ab,M,rfl,C,w,K⟩:=O.hW (n:=1) rfl (j:=0) rfl;simp only[bY.cells]at w;rw[jk]at w;have E:=m.get C;simp(disch:=try exact dz)only[gX,iI,lm,ai,Q,decide_true,aq,T,aX,br,bI,b2,A,gh,cJ,E,iK,w];refine aA (aJ _ _ _ B ae _ _ rfl _ ok M (K.av m)) ?_;rintro _ R ⟨rfl,q⟩;refine⟨q.1,?_⟩;have F:=q.get A;simp(disch:=try exact ah)only[ai,F,aW];refine aA (bd d (deep+1) aI ae ae R ok aE _ rfl (v2.av (m.trans q))) ?_;rintro _ S ⟨rfl,y⟩;refine⟨y.1,?_⟩;have ak:=y.get F
   simp(disch:=try exact dz)only[ai,A,F,ak,cJ,bf];by_cases aP:c=[]
   ·subst aP;have aG:∀H',bK P H' .len [44] [aF]=I (J U 0):=λH'=>v3.jM H'
    have aO:¬((0:Int)<0):=ae;simp(disch:=try exact dz)only[ai,aG,aO,decide_false];refine fin _ S ?_ ((m.trans q).trans y);show _=acc++(pad deep++flat (wd j6::b9::(be (.mk g G)++(dC (pad deep) (bN (deep+1) b)++[]))));rw[iB,ft,ec,s7,dV];simp[j6]
   ·have bm:(0:Int)<(c.length:Int):=by have:=List.length_pos_iff.2 aP;omega
    have aG:=λH'=>v3.jM H'
    have bl:c.isEmpty=false:=by cases c<;>first|exact absurd rfl aP|rfl
    simp(disch:=try exact dz)only[ai,aG,bm,decide_true,cJ,ak,aW];refine aA (bC d (deep+1) a7 ae ae S ok aF _ rfl (v3.av ((m.trans q).trans y))) ?_;rintro _ bi ⟨rfl,bc⟩;refine⟨bc.1,?_⟩;simp(disch:=try exact dz)only[ai,cJ];refine fin _ bi ?_ (((m.trans q).trans y).trans bc);show _=acc++(pad deep++flat (wd j6::b9::(be (.mk g G)++(dC (pad deep) (bN (deep+1) b)++bif c.isEmpty then[]else b9::wd kL::dC (pad deep) (bN (deep+1) c)))));have:=s7 (pad deep) (bN (deep+1) c) [];rw[pq,dV]at this;rw[bl,aH,iB,ft,ec,s7,ft,iB,this];simp[j6,kL]
  | @«while» d p e b B aI=>
   obtain⟨g,G⟩:=e;have ao:=am rfl;have an:=hD B;have bk:=th (deep:=deep+1) aI ae;obtain⟨l,aB,V,aC,ab,M,rfl,C,w,K⟩:=O.hW (n:=1) rfl (j:=0) rfl;simp only[bY.cells]at w;rw[jk]at w;have E:=m.get C;simp(disch:=try exact dz)only[gX,iI,lm,ai,Q,decide_true,aq,T,aX,br,bI,b2,A,gh,cJ,E,iK,w];refine aA (aJ _ _ _ B ae _ _ rfl _ ok M (K.av m)) ?_;rintro _ R ⟨rfl,q⟩;refine⟨q.1,?_⟩;have F:=q.get A;simp(disch:=try exact ah)only[ai,F,aW];refine aA (bd d (deep+1) aI ae ae R ok aE _ rfl (v2.av (m.trans q))) ?_;rintro _ S ⟨rfl,y⟩;refine⟨y.1,?_⟩;simp(disch:=try exact dz)only[ai,A,F,cJ,bf]
   refine fin _ S ?_ ((m.trans q).trans y);show _=acc++(pad deep++flat (wd mI::b9::(be (.mk g G)++dC (pad deep) (bN (deep+1) b))));have:=s7 (pad deep) (bN (deep+1) b) [];rw[pq,dV]at this;rw[iB,ft,ec,this];simp[mI]
  | @lh d p=>
   have aG:∀H',bK P H' .len [96] [ev]=I (J U 0):=by
    intro H';rcases O with⟨rfl,_⟩|⟨l,i,cap,ro,els,rfl,_⟩|⟨l,i,cap,rfl,_⟩
    ·exact tm
    ·exact m9
    ·exact m9
   have aO:¬((0:Int)<0):=ae;simp(disch:=try exact dz)only[gX,iI,pK,lm,ai,Q,decide_true,aq,T,aX,br,bI,b2,A,gh,cJ,aG,aO,decide_false];refine fin _ _ ?_ m;show _=acc++(pad deep++flat (wd jF::[bp [59]]));rw[iB,dQ,dV];simp[jF]
  | @li d p e B=>
   obtain⟨g,G⟩:=e;have ao:=am rfl;have an:=hD B;obtain⟨l,aB,V,aC,ab,M,rfl,C,w,K⟩:=O.hW (n:=1) rfl (j:=0) rfl;simp only[bY.cells]at w;rw[jk]at w;have E:=m.get C;simp(disch:=try exact dz)only[gX,iI,lm,ai,Q,decide_true,aq,T,aX,br,bI,b2,A,gh,cJ,E,iK,w,eC];refine aA (aJ _ _ _ B ae _ _ rfl _ ok M (K.av m)) ?_;rintro _ R ⟨rfl,q⟩;refine⟨q.1,?_⟩;simp(disch:=try exact dz)only[pK,ai,cJ];refine fin _ _ ?_ (m.trans q);show _=acc++(pad deep++flat (wd jF::(b9::be (.mk g G)++[bp [59]])));rw[iB,mn,ft,ec,dQ,dV];simp[jF]
  | @print d p e B=>
   obtain⟨g,G⟩:=e;have ao:=am rfl;have an:=hD B;obtain⟨l,aB,V,aC,ab,M,rfl,C,w,K⟩:=O.hW (n:=1) rfl (j:=0) rfl;simp only[bY.cells]at w;rw[jk]at w;have E:=m.get C;simp(disch:=try exact dz)only[gX,iI,lm,ai,Q,decide_true,aq,T,aX,br,bI,b2,A,gh,cJ,E,iK,w];refine aA (aJ _ _ _ B ae _ _ rfl _ ok M (K.av m)) ?_;rintro _ R ⟨rfl,q⟩;refine⟨q.1,?_⟩;simp(disch:=try exact dz)only[ai,cJ];refine fin _ _ ?_ (m.trans q);show _=acc++(pad deep++flat (wd mG::b9::(be (.mk g G)++[bp [59]])));rw[iB,ft,ec,dQ,dV];simp[mG]
  | @call d p e bo B=>
   obtain⟨g,G⟩:=e;have ao:=am rfl;have an:=hD B;obtain⟨l,aB,V,aC,ab,M,rfl,C,w,K⟩:=O.hW (n:=1) rfl (j:=0) rfl;simp only[bY.cells]at w;rw[jk]at w;have E:=m.get C;simp(disch:=try exact dz)only[gX,iI,lm,ai,Q,decide_true,aq,T,aX,br,bI,b2,A,gh,cJ,E,iK,w];refine aA (aJ _ _ _ B ae _ _ rfl _ ok M (K.av m)) ?_;rintro _ R ⟨rfl,q⟩;refine⟨q.1,?_⟩;simp(disch:=try exact dz)only[ai,cJ];refine fin _ _ ?_ (m.trans q);show _=acc++(pad deep++flat (be (.mk g G)++[bp [59]]));rw[ec,dQ,dV];simp
def Ue(j:Nat):pad (j+1)=pad j++[32,32]:=by
 unfold pad;rw[show 2*(j+1)=2*j+1+1 by omega,zA,zA,hi];rfl
def Le{N:Nat}{v:aa}{deep:Nat}(d:deep<=100){H:ad}{Q:aa->ad->Prop}(h:W (gX (al P aj) N N v (J U deep) (Z []) (Z (pad deep)) (J U 0) H) Q):∀(c j k:Nat),j+c=deep->c<k->
  W (nN (al P aj) N k v (J U deep) (Z []) (Z (pad j)) (J U j) H) Q
 |_,_,0,_,i=>ae
 |0,j,k+1,e,_=>by
  have a:¬((j:Int)<(deep:Int)):=ae;obtain rfl:j=deep:=ae;simp only[nN,uz,rV,aR,b8,a,decide_false];exact h
 |c+1,j,k+1,e,i=>by
  have a:(j:Int)<(deep:Int):=ae;have ak:=iD j;have ap:w P .add 9 Y (Z (pad j)) (Z [32,32])=I (Z (pad (j+1))):=by
   rw[Ue];exact cJ (by simp only[ef,de];omega)
  have l:IntKind.i64.wrap ((j:Int)+1)=((j+1:Nat):Int):=by rw[wrap_i64 ae ae];omega
  simp only[nN,uz,aR,b8,a,decide_true,ap,l];exact Le d h c (j+1) k ae ae
def JG:∀l:List a6,400*l.length<=dN l
 |[]=>by simp[dN]
 | .mk a es b c::r=>by have:=JG r;rw[dN,e7,ef];omega
def Bo{es:List a6}(au:∀a ks b c,a6.mk a ks b c∈es->mP b/\mP c):mP es:=by
 intro d deep q n l H ok v z e h;subst e;refine bt (λ_=>WI (es.length+200)) ?_;rw[yi];have s:pad 0=[]:=rfl;have key:=λ(Q:aa->ad->Prop) o=>Le (N:=es.length+200) (v:=v) (deep:=deep) ae (H:=H) (Q:=Q) o deep 0 (es.length+200) ae ae
 rw[s]at key;refine key _ ?_;by_cases e:es.length=0
 ·obtain rfl:=vw.1 e;have m:∀H',bK P H' .len [44] [v]=I (J U 0):=λH'=>h.jM H'
  have k:¬((0:Int)<0):=ae;simp only[gX,iI,lv,ai,m,k,decide_false];exact aD.2 ⟨by rw[bN];rfl,.refl _⟩
 ·obtain⟨L,i,cap,ro,els,rfl,_,j,w⟩:=h.row e;have x:=JG es;refine(Kc (N:=es.length+200) n j ae es 0 (es.length+200) [] H au q (by simpa using w) ⟨by simp only[de];omega,l⟩ ae ae (.refl _)).mono ?_;rintro v H' ⟨rfl,p⟩;exact⟨rfl,p⟩
def zI(e:a6):Prop:=∀(a:bR) (ks:List az) (b c:List a6),e= .mk a ks b c->mP b/\mP c
def B4:∀(e:a6),zI e
 | .mk a ks b c=>by
  have i:∀e∈b,zI e:=λe k=>B4 e
  have j:∀e∈c,zI e:=λe k=>B4 e
  intro bj d cN c' h;cases h;exact⟨Bo λbj d cN c' h=>i _ h _ _ _ _ rfl,Bo λbj d cN c' h=>j _ h _ _ _ _ rfl⟩
def abi(es:List a6):mP es:=Bo λa ks b c _=>B4 (.mk a ks b c) a ks b c rfl
section
set_option maxRecDepth 100000
noncomputable section
def jC(c:e)(N:Nat)(a:aa)(H:ad):O:=some (a,H)
def Yj(a:e)(N:Nat):∀V H,a7 P a N (L (L (L (L (L (n Tryz.f13)))))) (p Tryz.f13) [] (p Tryz.f13) V H=jC a N (V 3) H:=by
 refine bm (q _) λV H=> ?_
 delta jC;kernel_rfl
def j1(i:e)(N:Nat)(a:aa->aa->aa->ad->O)(y c d:aa)(H:ad):O:=C (w P .add 3 Y d (J U 1)) λh=>a y c h H
def Yk(a:e)(N:Nat)(c:aa->aa->aa->ad->O):∀V H,a7 P a N (L (L (d (d (L (d (L (L (L (L (n Tryz.f13))))))))))) (λV H=>c (V 1) (V 3) (V 7) H) [(6,(λV H=>jC a N (V 3) H))] (p Tryz.f13) V H=j1 a N c (V 1) (V 3) (V 7) H:=by
 refine bm (q _) λV H=> ?_
 delta j1;kernel_rfl
def pj(a:e)(N:Nat)(c:aa->aa->aa->ad->O)(y p:aa)(q s:aa)(H:ad):O:=C (w P .add 9 Y p (Z [32,123,10])) λh=>C (j P 46 s 4) λk=>C (A P H 44 k) λl=>i H (a 39 [l,J U 1] H) λm d=>C (w P .add 9 X h m) λn=>C (w P .add 9 Y n (Z [125,10])) λo=>j1 a N c y o q d
def Ym(a:e)(N:Nat)(c:aa->aa->aa->ad->O):∀V H,a7 P a N (L (L (L (L (L (d (d (L (d (d (L (d (L (L (L (L (n Tryz.f13))))))))))))))))) (λV H=>j1 a N c (V 1) (V 3) (V 7) H) [(7,(λV H=>j1 a N c (V 1) (V 3) (V 7) H)),(6,(λV H=>jC a N (V 3) H))] (p Tryz.f13) V H=pj a N c (V 1) (V 3) (V 7) (V 8) H:=by
 refine bm (q _) λV H=> ?_
 delta pj;generalize j1 a N c=h;revert h;refine id ?_;intro h;kernel_rfl
def kA(c:e)(N:Nat)(d:aa->aa->aa->ad->O)(y x:aa)(k a:aa)(H:ad):O:=C (w P .add 9 Y x (Z [41])) λh=>C (j P 46 a 2) λm=>C (A P H 4 m) λn=>aO (I n) (C (w P .add 9 Y h (Z [58,32])) λo=>C (j P 46 a 3) λp=>C (A P H 43 p) λq=>i H (c 38 [q] H) λs l=>C (w P .add 9 X o s) λv=>pj c N d y v k a l) (pj c N d y h k a H)
def Yl(a:e)(N:Nat)(c:aa->aa->aa->ad->O):∀V H,a7 P a N (L (L (L (d (d (L (d (d (L (d (L (L (L (L (n Tryz.f13))))))))))))))) (λV H=>j1 a N c (V 1) (V 3) (V 7) H) [(7,(λV H=>j1 a N c (V 1) (V 3) (V 7) H)),(6,(λV H=>jC a N (V 3) H))] (p Tryz.f13) V H=kA a N c (V 1) (V 3) (V 7) (V 8) H:=by
 refine bm ((Q M ((Q M (Ym a N c) (q _))) (q _))) λV H=> ?_
 delta kA;generalize pj a N c=h;revert h;refine id ?_;intro h;kernel_rfl
def pk(k:e)(N:Nat)(l:aa->aa->aa->ad->O)(a:aa->aa->aa->aa->aa->ad->O)(y c:aa)(d h i:aa)(H:ad):O:=C (w P .add 3 Y i (J U 1)) λj=>a y c d h j H
def Yn(a:e)(N:Nat)(c:aa->aa->aa->ad->O)(h:aa->aa->aa->aa->aa->ad->O):∀V H,a7 P a N (L (L (d (d (L (d (L (L (d (d (L (d (d (L (d (L (L (L (L (n Tryz.f13)))))))))))))))))))) (λV H=>h (V 1) (V 3) (V 7) (V 8) (V 9) H) [(8,(λV H=>kA a N c (V 1) (V 3) (V 7) (V 8) H)),(7,(λV H=>j1 a N c (V 1) (V 3) (V 7) H)),(6,(λV H=>jC a N (V 3) H))] (p Tryz.f13) V H=pk a N c h (V 1) (V 3) (V 7) (V 8) (V 9) H:=by
 refine bm (q _) λV H=> ?_
 delta pk;kernel_rfl
def pl(a:e)(N:Nat)(h:aa->aa->aa->ad->O)(k:aa->aa->aa->aa->aa->ad->O)(y v:aa)(x c d:aa)(H:ad):O:=C (j P 46 c 1) λm=>C (A P H 23 m) λn=>C (bX P 23 n d) λo=>C (A P H 66 o) λp=>i H (a 37 [p] H) λq l=>C (w P .add 9 X v q) λs=>pk a N h k y s x c d l
def Yo(a:e)(N:Nat)(c:aa->aa->aa->ad->O)(h:aa->aa->aa->aa->aa->ad->O):∀V H,a7 P a N (L (d (d (L (d (d (L (d (L (L (d (d (L (d (d (L (d (L (L (L (L (n Tryz.f13)))))))))))))))))))))) (λV H=>pk a N c h (V 1) (V 3) (V 7) (V 8) (V 9) H) [(9,(λV H=>pk a N c h (V 1) (V 3) (V 7) (V 8) (V 9) H)),(8,(λV H=>kA a N c (V 1) (V 3) (V 7) (V 8) H)),(7,(λV H=>j1 a N c (V 1) (V 3) (V 7) H)),(6,(λV H=>jC a N (V 3) H))] (p Tryz.f13) V H=pl a N c h (V 1) (V 3) (V 7) (V 8) (V 9) H:=by
 refine bm (q _) λV H=> ?_
 delta pl;generalize pk a N c h=i;revert i;refine id ?_;intro i;kernel_rfl
def pi(d:e)(N:Nat)(h:aa->aa->aa->ad->O)(l:aa->aa->aa->aa->aa->ad->O)(y i:aa)(k a c:aa)(H:ad):O:=C (j P 46 a 1) λm=>C (A P H 23 m) λn=>bU P .len [23] [n] H λo=>C (w P .lss 3 X c o) λp=>aO (I p) (C (w P .gtr 3 Y c (J U 0)) λq=>aO (I q) (C (w P .add 9 Y i (Z [44,32])) λs=>pl d N h l y s k a c H) (pl d N h l y i k a c H)) (kA d N h y i k a H)
def kC(a:e)(N:Nat)(c:aa->aa->aa->ad->O):Nat->aa->aa->aa->aa->aa->ad->O
 |0,_,_,_,_,_,_=>u
 |n+1,y,d,h,i,j,H=>pi a N c (kC a N c n) y d h i j H
def Ye(a:e)(N:Nat)(c:aa->aa->aa->ad->O)(h:aa->aa->aa->aa->aa->ad->O):∀V H,a7 P a N (d (d (L (d (L (L (d (d (L (d (d (L (d (L (L (L (L (n Tryz.f13)))))))))))))))))) (λV H=>h (V 1) (V 3) (V 7) (V 8) (V 9) H) [(8,(λV H=>kA a N c (V 1) (V 3) (V 7) (V 8) H)),(7,(λV H=>j1 a N c (V 1) (V 3) (V 7) H)),(6,(λV H=>jC a N (V 3) H))] (p Tryz.f13) V H=pi a N c h (V 1) (V 3) (V 7) (V 8) (V 9) H:=by
 refine bm ((Q M ((Q M (Yn a N c h) ((cn M ((Q M (Yo a N c h) (q _))))))) (q _))) λV H=> ?_
 delta pi;generalize kA a N c=i;generalize pl a N c h=j;revert i j;refine id ?_;intro i j;kernel_rfl
def rH(d:e)(N:Nat)(l:aa->aa->aa->ad->O)(y k a:aa)(H:ad):O:=C (j P 26 y 2) λm=>C (A P H 24 m) λn=>bU P .len [24] [n] H λo=>C (w P .lss 3 X a o) λp=>aO (I p) (C (j P 26 y 2) λq=>C (A P H 24 q) λs=>C (bX P 24 s a) λv=>C (A P H 46 v) λx=>bn H [Z [],aa.ag,.bool X,Z [],J U 0,aa.ag,J U 0] λc h=>aG h (aB P h 46 c x) λi=>C (w P .add 9 Y k (Z [102,117,110,99,32])) λz=>C (j P 46 c 0) λB=>C (A P i 9 B) λE=>C (w P .add 9 X z E) λF=>C (w P .add 9 Y F (Z [40])) λG=>kC d N l N y G a c (J U 0) i) (jC d N k H)
def kB(a:e)(N:Nat):Nat->aa->aa->aa->ad->O
 |0,_,_,_,_=>u
 |n+1,y,c,d,H=>rH a N (kB a N n) y c d H
def Yd(a:e)(N:Nat)(c:aa->aa->aa->ad->O):∀V H,a7 P a N (d (d (L (d (L (L (L (L (n Tryz.f13))))))))) (λV H=>c (V 1) (V 3) (V 7) H) [(6,(λV H=>jC a N (V 3) H))] (p Tryz.f13) V H=rH a N c (V 1) (V 3) (V 7) H:=by
 refine bm ((Q M ((Q M (Yk a N c) ((cn M ((Q M ((Q M ((Q M (Yl a N c) ((Q M ((cn M ((cY (k:=λm V H=>kC a N c m (V 1) (V 3) (V 7) (V 8) (V 9) H) M (λV H=>M) (λm=>Ye a N c (kC a N c m)))))) (q _))))) (q _))) (q _))))))) (q _))) λV H=> ?_
 delta rH;generalize jC a N=h;generalize kC a N c N=i;revert h i;refine id ?_;intro h i;kernel_rfl
def ny(a:e)(N:Nat)(y c:aa)(H:ad):O:=kB a N N y c (J U 0) H
def Yi(a:e)(N:Nat):∀V H,a7 P a N (L (L (L (L (n Tryz.f13))))) (p Tryz.f13) [] (p Tryz.f13) V H=ny a N (V 1) (V 3) H:=by
 refine bm ((Q M (Yj a N) ((Q M ((cn M ((cY (k:=λm V H=>kB a N m (V 1) (V 3) (V 7) H) M (λV H=>M) (λm=>Yd a N (kB a N m)))))) (q _))))) λV H=> ?_
 delta ny;generalize kB a N N=c;revert c;refine id ?_;intro c;kernel_rfl
def rE(a:e)(N:Nat)(d:aa->aa->aa->ad->O)(y c aJ:aa)(H:ad):O:=C (j P 26 y 1) λk=>C (A P H 23 k) λl=>bU P .len [23] [l] H λm=>C (w P .lss 3 X aJ m) λn=>aO (I n) (C (w P .add 9 Y c (Z [103,108,111,98,97,108,32])) λp=>C (j P 26 y 1) λq=>C (A P H 23 q) λs=>C (bX P 23 s aJ) λv=>C (A P H 66 v) λx=>i H (a 37 [x] H) λz h=>C (w P .add 9 X p z) λB=>C (w P .add 9 Y B (Z [59,10])) λE=>C (w P .add 3 Y aJ (J U 1)) λo=>d y E o h) (ny a N y c H)
def l7(a:e)(N:Nat):Nat->aa->aa->aa->ad->O
 |0,_,_,_,_=>u
 |n+1,y,c,aJ,H=>rE a N (l7 a N n) y c aJ H
def Ya(a:e)(N:Nat)(h:aa->aa->aa->ad->O):∀V H,a7 P a N (d (d (L (d (L (L (L (n Tryz.f13)))))))) (λV H=>h (V 1) (V 3) (V 6) H) [(4,(λV H=>ny a N (V 1) (V 3) H))] (p Tryz.f13) V H=rE a N h (V 1) (V 3) (V 6) H:=by
 refine bm (q _) λV H=> ?_
 delta rE;generalize ny a N=c;revert c;refine id ?_;intro c;kernel_rfl
def kz(a:e)(N:Nat)(y c:aa)(H:ad):O:=l7 a N N y c (J U 0) H
def Yf(a:e)(N:Nat):∀V H,a7 P a N (L (L (L (n Tryz.f13)))) (p Tryz.f13) [] (p Tryz.f13) V H=kz a N (V 1) (V 3) H:=by
 refine bm ((Q M (Yi a N) ((Q M ((cn M ((cY (k:=λm V H=>l7 a N m (V 1) (V 3) (V 6) H) M (λV H=>M) (λm=>Ya a N (l7 a N m)))))) (q _))))) λV H=> ?_
 delta kz;generalize l7 a N N=c;revert c;refine id ?_;intro c;kernel_rfl
def nz(i:e)(N:Nat)(a:aa->aa->aa->ad->O)(y d h:aa)(H:ad):O:=C (w P .add 3 Y h (J U 1)) λc=>a y d c H
def Yg(a:e)(N:Nat)(c:aa->aa->aa->ad->O):∀V H,a7 P a N (L (L (d (d (L (d (L (L (n Tryz.f13))))))))) (λV H=>c (V 1) (V 3) (V 4) H) [(0,(λV H=>kz a N (V 1) (V 3) H))] (p Tryz.f13) V H=nz a N c (V 1) (V 3) (V 4) H:=by
 refine bm (q _) λV H=> ?_
 delta nz;kernel_rfl
def nA(a:e)(N:Nat)(c:aa->aa->aa->ad->O)(y d h:aa)(H:ad):O:=C (w P .add 9 Y d (Z [125,10])) λi=>nz a N c y i h H
def Yh(a:e)(N:Nat)(c:aa->aa->aa->ad->O):∀V H,a7 P a N (L (L (d (d (L (d (d (L (d (L (L (n Tryz.f13)))))))))))) (λV H=>nz a N c (V 1) (V 3) (V 4) H) [(1,(λV H=>nz a N c (V 1) (V 3) (V 4) H)),(0,(λV H=>kz a N (V 1) (V 3) H))] (p Tryz.f13) V H=nA a N c (V 1) (V 3) (V 4) H:=by
 refine bm (q _) λV H=> ?_
 delta nA;generalize nz a N c=h;revert h;refine id ?_;intro h;kernel_rfl
def rG(d:e)(N:Nat)(k:aa->aa->aa->ad->O)(l:aa->aa->aa->aa->ad->O)(y h:aa)(a c:aa)(H:ad):O:=C (j P 26 y 0) λn=>C (A P H 22 n) λo=>C (bX P 22 o a) λp=>C (j P 41 p 1) λq=>C (A P H 23 q) λs=>bU P .len [23] [s] H λv=>C (w P .lss 3 X c v) λx=>aO (I x) (C (w P .add 9 Y h (Z [32,32])) λB=>C (j P 26 y 0) λE=>C (A P H 22 E) λF=>C (bX P 22 F a) λG=>C (j P 41 G 1) λK=>C (A P H 23 K) λL=>C (bX P 23 L c) λM=>C (A P H 66 M) λQ=>i H (d 37 [Q] H) λR m=>C (w P .add 9 X B R) λS=>C (w P .add 9 Y S (Z [59,10])) λT=>C (w P .add 3 Y c (J U 1)) λz=>l y T a z m) (nA d N k y h a H)
def l8(a:e)(N:Nat)(c:aa->aa->aa->ad->O):Nat->aa->aa->aa->aa->ad->O
 |0,_,_,_,_,_=>u
 |n+1,y,d,h,i,H=>rG a N c (l8 a N c n) y d h i H
def Yc(a:e)(N:Nat)(c:aa->aa->aa->ad->O)(i:aa->aa->aa->aa->ad->O):∀V H,a7 P a N (d (d (L (d (L (d (d (L (d (d (L (d (L (L (n Tryz.f13))))))))))))))) (λV H=>i (V 1) (V 3) (V 4) (V 5) H) [(2,(λV H=>nA a N c (V 1) (V 3) (V 4) H)),(1,(λV H=>nz a N c (V 1) (V 3) (V 4) H)),(0,(λV H=>kz a N (V 1) (V 3) H))] (p Tryz.f13) V H=rG a N c i (V 1) (V 3) (V 4) (V 5) H:=by
 refine bm (q _) λV H=> ?_
 delta rG;generalize nA a N c=h;revert h;refine id ?_;intro h;kernel_rfl
def rF(c:e)(N:Nat)(h:aa->aa->aa->ad->O)(y d a:aa)(H:ad):O:=C (j P 26 y 0) λi=>C (A P H 22 i) λk=>bU P .len [22] [k] H λl=>C (w P .lss 3 X a l) λm=>aO (I m) (C (w P .add 9 Y d (Z [114,101,99,111,114,100,32])) λn=>C (j P 26 y 0) λo=>C (A P H 22 o) λp=>C (bX P 22 p a) λq=>C (j P 41 q 0) λs=>C (A P H 9 s) λv=>C (w P .add 9 X n v) λx=>C (w P .add 9 Y x (Z [32,123,10])) λz=>l8 c N h N y z a (J U 0) H) (kz c N y d H)
def lp(a:e)(N:Nat):Nat->aa->aa->aa->ad->O
 |0,_,_,_,_=>u
 |n+1,y,c,d,H=>rF a N (lp a N n) y c d H
def Yb(a:e)(N:Nat)(c:aa->aa->aa->ad->O):∀V H,a7 P a N (d (d (L (d (L (L (n Tryz.f13))))))) (λV H=>c (V 1) (V 3) (V 4) H) [(0,(λV H=>kz a N (V 1) (V 3) H))] (p Tryz.f13) V H=rF a N c (V 1) (V 3) (V 4) H:=by
 refine bm ((Q M ((Q M (Yg a N c) ((cn M ((Q M ((Q M (Yh a N c) ((Q M ((cn M ((cY (k:=λm V H=>l8 a N c m (V 1) (V 3) (V 4) (V 5) H) M (λV H=>M) (λm=>Yc a N c (l8 a N c m)))))) (q _))))) (q _))))))) (q _))) λV H=> ?_
 delta rF;generalize kz a N=h;generalize l8 a N c N=i;revert h i;refine id ?_;intro h i;kernel_rfl
def w8(a:e)(N:Nat)(F:aa)(H:ad):O:=bO H (cg (H).next F) λy c=>lp a N N y (Z []) (J U 0) c
def VI(N:Nat){F:aa}{H:ad}{r:aa×ad}(h:w8 (al P aj) N F H=I r):al P aj 13 [F] H=I r:=bu N (S:=λa=>w8 a N F H) Tryz.func13 (λa=>cG ((Q M ((Q M ((Q M (Yf a N) ((Q M ((cn M ((cY (k:=λm V H=>lp a N m (V 1) (V 3) (V 4) H) M (λV H=>M) (λm=>Yb a N (lp a N m)))))) (q _))))) (q _))) (q _))) (by delta w8;generalize lp a N N=c;revert c;refine id ?_;intro c;kernel_rfl)) h
end
end
section
variable {T:List Tok}{s:am}
def i7{x:ay}(a:kw x=4):(bD T x s).2=bg T x s:=by
 unfold bD bg aS;rw[a];cases a8 T s 4 x<;>rfl
def kN(h:s.an≠0)(x:ay):(bD T x s).2=s:=by
 unfold bD;rw[hd h,aH];exact e9 h 2
def kI(h:s.an≠0)(x:ay):bg T x s=s:=by
 unfold bg;rw[ed h,aH];exact e9 h 2
def NJ(h:s.an≠0)(k:Int)(x:ay):cK T k x s=(X,s):=by unfold cK;rw[hd h,aH]
def Kz(h:s.an≠0)(b:Bool)(x y:Int):dM T b x y s=s:=by
 unfold dM;cases b&&decide (y<=x)
 ·rfl
 ·rw[aK];exact e9 h 4
def v1(h:s.an≠0):h1 T s=(([],0),s):=if_pos h
def By(h:s.an≠0):(eJ T s).2.an=s.an/\(eJ T s).2.bl=s.bl:=by
 unfold eJ;cases((G T s.at_).kind != 1)
 ·exact⟨rfl,rfl⟩
 ·rw[aK,e9 h];exact⟨rfl,rfl⟩
def uX(h:s.an≠0):(fp T s).2.an=s.an/\(fp T s).2.bl=s.bl:=by
 obtain⟨a,b⟩:=By (T:=T) h;have c:(eJ T s).2.an≠0:=by rw[a];exact h
 unfold fp;simp only[kN c,v1 c];exact⟨a,b⟩
def oz(h:s.an≠0)(n:Nat)(l:List bq):k3 T (n+1) l s=I (l,s):=by
 have a:(s.an==0)=false:=by simpa using h
 rw[k3,a];rfl
def Hs(h:s.an≠0)(n:Nat)(l:List bq):gg T (n+1) l s=I (l,s):=by
 have a:(s.an==0)=false:=by simpa using h
 rw[gg,a];rfl
def tB(h:s.an≠0)(n:Nat)(l:List bq):iV T (n+1) l s=I (l,s):=by
 rw[iV,NJ h];rfl
def we(h:s.an≠0)(n:Nat)(l:List bq):eV T (n+1) l s=I (l,s):=by
 have a:(s.an==0)=false:=by simpa using h
 rw[eV,a];rfl
def QM(h:s.an≠0):hz T s=s:=by
 unfold hz;rw[kI h,ed h];rfl
structure ee(T:List Tok)(s:am):Prop where
 f:s.an=0
 a:0<=s.at_
 b:s.at_<T.length
 o:s.aY=0
 z:s.bl=0
def ee.in(g:ee T s):In ((T.length:Int)-1) s:=⟨g.a,by have:=g.b;omega,by rw[g.o];omega,by rw[g.o];omega⟩
def ee.dI{s':am}{k:Int}(g:ee T s)(h:m ((T.length:Int)-1) s s' k)(d:0<=k)(c:s'.bl=s.bl):ee T s':=⟨h.jo,by have:=h.a;have:=g.a;omega,by have:=h.b;omega,by rw[h.o];exact g.o,by rw[c];exact g.z⟩
def ee.take(ar:eh T)(g:ee T s){x:ay}(e:(bg T x s).an=0):ee T (bg T x s)/\s.at_+1<=(bg T x s).at_:=by
 obtain⟨h,d,c⟩:=fo ar.g (λ_=>g.in) e;exact⟨g.dI c ae (by rw[d];rfl),c.a⟩
def ee.go(ar:eh T)(g:ee T s)(d:(G T s.at_).kind≠0):ee T (ao s)/\s.at_+1<=(ao s).at_:=by
 obtain⟨e,c⟩:=go_ok ar.g g.in g.f d;exact⟨g.dI c ae rfl,c.a⟩
def ee.typed(ar:eh T)(g:ee T s)(d:(cT T s).2.an=0):ee T (cT T s).2/\s.at_+3<=(cT T s).2.at_:=by
 obtain⟨-,-,dI⟩:=DF ar.g (λ_=>g.in) d;have h:=zR ar.n (s:=s) (x:=s) g.f ⟨rfl,rfl,aV _⟩ g.z;have j:(cT T s).2.bl=s.bl:=by
  rcases h.1 with⟨c,e⟩|⟨c,i,-⟩
  ·rw[e];exact(h.2 c).2.1
  ·rw[i]at d;exact absurd d c
 exact⟨g.dI dI ae j,dI.a⟩
def DD(ar:eh T)(g:ee T s):cE (fp T s) (cO T s):=by
 have m:(s.an==0)=true:=by rw[g.f];rfl
 unfold fp cO cT eJ bv;rw[m,FG];cases d:(G T s.at_).kind==1 with
 |true=>
  have e:((G T s.at_).kind != 1)=false:=by rw[bne,d];rfl
  have o:(G T s.at_).kind≠0:=by
   have a:(G T s.at_).kind=1:=by simpa using d
   omega
  simp only[e,aH,aK];rw[i7 aC];have j:=(g.go ar o).1;by_cases c:(bg T [58] (ao s)).an=0
  ·have k:=(j.take ar c).1;rw[show h1 T (bg T [58] (ao s))=hj T (bg T [58] (ao s))from if_neg (λh=>h c)];have i:=(vd ar.n (s:=bg T [58] (ao s)) (x:=bg T [58] (ao s)) c ⟨rfl,rfl,aV _⟩ k.z).1;exact cE.hF i.hq λl=>by rw[i.eq l]
  ·rw[v1 c,ty c];exact .inr ⟨c,rfl,rfl⟩
 |false=>
  have e:((G T s.at_).kind != 1)=true:=by rw[bne,d];rfl
  have a:(bx T 2 s).an≠0:=ej aC;simp only[e,aH,aK];rw[kN a,v1 a,kI a,ty a];exact .inr ⟨a,rfl,rfl⟩
def kn(s:am){x:ay}(h:kw x=4):aS T s x=a8 T s 4 x:=by unfold aS;rw[h]
def A9(s:am){x:ay}(h:kw x=3):aS T s x=a8 T s 3 x:=by unfold aS;rw[h]
def Ht(ar:eh T):∀(k:Nat) (s:am) (l:List bq),(s.an=0->ee T s/\(T.length:Int)-s.at_<=k/\l.length<=8)->∀n w,k+1<=n->k+1<=w->∃p q,k3 T n l s=I p/\gg T w l s=I q/\cE p q/\(p.2.an=0->ee T p.2/\s.at_<=p.2.at_)
 |k,s,l,h,0,_,E,_=>ae
 |k,s,l,h,_,0,_,E=>ae
 |k,s,l,h,n+1,w+1,E,S=>by
  by_cases o:s.an=0
  ·obtain⟨g,Q,ak⟩:=h o;have C:(s.an==0)=true:=by rw[o];rfl
   rw[k3,gg,C,kn s aC];cases V:a8 T s 4 [125]with
   |true=>exact⟨_,_,rfl,rfl,.inl ⟨o,rfl⟩,λ_=>⟨g,Int.le_refl _⟩⟩
   |false=>
    simp only[Bool.not_false,Bool.and_true,aK];have P:=g.b;have O:=g.a;obtain⟨n,rfl⟩:∃m,n=m+1:=⟨n-1,ae⟩;obtain⟨w,rfl⟩:∃m,w=m+1:=⟨w-1,ae⟩;cases v:((G T s.at_).kind==1&&l.length==8)with
    |true=>
     simp only[tu,beq_iff_eq]at v;have ap:dM T ((G T s.at_).kind==1) l.length 8 s=bx T 4 s:=by
      unfold dM;rw[show((G T s.at_).kind==1)=Y by simpa using v.1,show decide ((8:Int)<=(l.length:Int))=Y by rw[v.2];rfl];rfl
     have d:(bx T 4 s).an≠0:=ej aC;rw[ap,aK];obtain⟨aI,a2⟩:=uX (T:=T) d;have j:(fp T (bx T 4 s)).2.an≠0:=by rw[aI];exact d
     rw[kN j,oz j];exact⟨_,_,rfl,rfl,.inr ⟨j,aI.symm,a2.symm⟩,λi=>absurd i j⟩
    |false=>
     have ap:dM T ((G T s.at_).kind==1) l.length 8 s=s:=by
      unfold dM;cases L:(G T s.at_).kind==1 with
      |false=>rfl
      |true=>
       rw[L,FG]at v;have:l.length≠8:=by simpa using v
       rw[show decide ((8:Int)<=(l.length:Int))=X from decide_eq_false ae];rfl
     rw[ap,aH];rcases DD ar g with⟨d,e⟩|⟨d,j,K⟩
     ·rw[<-e,<-i7 (x:=[59]) aC];rw[<-e]at d;obtain⟨A,bo⟩:=g.typed ar (show(cT T s).2.an=0 from d);have z:(cO T s).2=(cT T s).2:=rfl;have M:(G T s.at_).kind=1:=by
       have y:(bv T s).2.an=0:=by
        by_cases c:(bv T s).2.an=0
        ·exact c
        ·exfalso;have:(cT T s).2.an≠0:=by
          unfold cT;simp only[kI c,ty c];exact c
         exact this d
       unfold bv at y;rw[C,FG]at y;cases c:(G T s.at_).kind==1 with
       |true=>simpa using c
       |false=>rw[c,aH]at y;exact absurd y (ej aC)
      have R:l.length≠8:=by
       rw[M]at v;simpa using v
      obtain⟨p,q,f1,f2,f3,f4⟩:=Ht ar (k-1) ((bD T [59] (cO T s).2).2) (l++[(cO T s).1]) (λc=>by
       rw[i7 aC]at c ⊢;rw[z]at c ⊢;obtain⟨F,b3⟩:=A.take ar c;exact⟨F,ae,by simp;omega⟩) (n+1) (w+1) ae ae
      refine⟨p,q,f1,f2,f3,λi=> ?_⟩;obtain⟨H,N⟩:=f4 i;refine⟨H,?_⟩;have c:(bD T [59] (cO T s).2).2.an=0:=by
       by_cases c:(bD T [59] (cO T s).2).2.an=0
       ·exact c
       ·rw[oz c]at f1;cases f1;exact absurd i c
      rw[i7 aC,z]at c N;have:=(A.take ar c).2;omega
     ·have B:(cO T s).2.an≠0:=by rw[j];exact d
      rw[kN d,oz d,kI B,Hs B];exact⟨_,_,rfl,rfl,.inr ⟨d,j,K⟩,λi=>absurd i d⟩
  ·rw[oz o,Hs o];exact⟨_,_,rfl,rfl,.inr ⟨o,rfl,rfl⟩,λi=>absurd i o⟩
