/-
  Texts of one proof, laid together: Ls Ma ShA Mb SgA SgB SgC SgD SgE Na.
-/
import Derived.Test.YtmhhnnklfcbgfaaGreatME
set_option linter.unusedVariables false
set_option linter.unusedSimpArgs false
set_option linter.defProp false
open Option renaming some→D,none→I
open Bool renaming true→C,false→Z
open Go.bo.aa renaming int→J,str→F,bool→y
open Go.IntKind renaming i64→X
namespace Go.Proofs.YtmhhnnklfcbgfaaGreat
open Go.bo
section
set_option linter.defProp false
def jc:=aL @ad.ds @ad.wS
def aq:=aL (aL (aL (aL (aL @Jz @kR) (aL @yG (aL @S4 @S7))) (aL (aL @S8 @kQ) (aL @pk (aL @abF @abE)))) (aL (aL (aL @lJ @Kx) (aL @Jv (aL @lK @abD))) (aL (aL @abz (aL @abC @abA)) (aL @abB (aL @abx @SX))))) (aL (aL (aL (aL @SW @KQ) (aL @JJ (aL @JL @JM))) (aL (aL @JE @JF) (aL @JG (aL @JH @JC)))) (aL (aL (aL @JI @JD) (aL @Option.bind_some.{0,0} (aL @gG @jF))) (aL (aL @B4 (aL @bK @Tb)) (aL @td (aL @Ta @S_)))))
def aO:=aL (aL (aL (aL (aL @List.getElem?_cons_zero.{0} @List.getElem?_cons_succ.{0}) (aL @List.drop_zero.{0} @List.drop_succ_cons.{0})) (aL (aL @List.take_succ_cons.{0} @List.take_zero.{0}) (aL @List.set_cons_zero.{0} @List.set_cons_succ.{0}))) (aL (aL (aL @List.cons_append.{0} @List.nil_append.{0}) (aL @List.length_cons.{0} @List.length_nil.{0})) (aL (aL @List.all_cons.{0} @List.all_nil.{0}) (aL @Bool.and_true @Bool.and_self)))) (aL (aL (aL (aL @Nat.zero_add @Nat.add_zero) (aL @b4 @and_self)) (aL (aL @and_true @true_and) (aL @if_true.{1} @bn))) (aL (aL (aL @FV @F1) (aL @FT @F0)) (aL (aL @FY @FZ) (aL @FU (aL @FW @FX)))))
def abb:=aL (aL (aL (aL (aL @yw (aL @aay @aaB)) (aL (aL @aal @aam) (aL @aan @aar))) (aL (aL (aL @aat @IK) (aL @aaw @aax)) (aL (aL @r_ @aaz) (aL @IL @aaA)))) (aL (aL (aL (aL @IM @IN) (aL @aaC @aaD)) (aL (aL @aaE @aah) (aL @aai @aaj))) (aL (aL (aL @aak @aao) (aL @aap @aaq)) (aL (aL @aas @aau) (aL @aav @II))))) (aL (aL (aL (aL @IY (aL @IZ @aa8)) (aL (aL @aaN @aaO) (aL @aaP @aaT))) (aL (aL (aL @aaV @aaZ) (aL @aa0 @aa1)) (aL (aL @aa2 @aa3) (aL @aa4 @aa5)))) (aL (aL (aL (aL @aa6 @aa7) (aL @aa9 @aa_)) (aL (aL @aba @aaJ) (aL @aaK @aaL))) (aL (aL (aL @aaM @aaQ) (aL @aaR @aaS)) (aL (aL @aaU @aaW) (aL @aaX @aaY)))))
def aG:=aL (aL (aL @Nn (aL @Nw @DK)) (aL @Nt (aL @Ns @Nr))) (aL (aL @Nq (aL @Np @Nu)) (aL @Nv (aL @LR @Qs)))
def n4:=aL (aL (aL @ad.NQ @ad.eN) (aL @ad.dA @ad.cW)) (aL (aL @ad.ds @ad.wS) (aL @ad.fE @ad.set_set))
def h1:=aL (aL (aL @CI (aL @K2 @CC)) (aL (aL @KZ @K0) (aL @K1 @CJ))) (aL (aL @CE (aL @CB @CH)) (aL (aL @CF @y8) (aL @KY @CG)))
def aM:=aL (aL (aL (aL (aL @MG (aL @MH @MI)) (aL (aL @MJ @MK) (aL @MU @MV))) (aL (aL (aL @MW @MX) (aL @MY @MZ)) (aL (aL @M0 @M1) (aL @M3 @M4)))) (aL (aL (aL @M5 (aL @M6 @M7)) (aL (aL @M8 @M9) (aL @M_ @Na))) (aL (aL (aL @Nb @Nc) (aL @Nd @Nf)) (aL (aL @Ng @Nh) (aL @Ni @Nj))))) (aL (aL (aL (aL @Nk (aL @Nl @Nm)) (aL (aL @Mn @Mo) (aL @Mp @Mq))) (aL (aL (aL @Mr @Ms) (aL @Mt @Mu)) (aL (aL @Mv @Mw) (aL @Mx @My)))) (aL (aL (aL @Mz (aL @MA @MB)) (aL (aL @MC @MD) (aL @ME @MF))) (aL (aL (aL @ML @MM) (aL @MO @MP)) (aL (aL @MQ @MR) (aL @MS @MT)))))
def NI:= @NH
def sS:=aL (aL (aL (aL @PX (aL @PB @PC)) (aL (aL @PD @PE) (aL @PF @PI))) (aL (aL @PJ (aL @PK @PN)) (aL (aL @PO @PR) (aL @PS @PT)))) (aL (aL (aL @PU (aL @PV @PW)) (aL (aL @PY @PZ) (aL @Pv @Pw))) (aL (aL (aL @Px @Py) (aL @Pz @PA)) (aL (aL @PG @PH) (aL @PL @PM))))
def OC:=aL (aL (aL (aL @N9 @Oa) (aL @Oc @Ol)) (aL (aL @Oq @Ou) (aL @Ow (aL @Oy @OA)))) (aL (aL (aL @NZ @N1) (aL @N3 @N5)) (aL (aL @N7 @Oe) (aL @Og (aL @Oi @On))))
def Kj:=aL aq (aL aO (aL abb (aL aG (aL n4 (aL h1 (aL aM (aL NI (aL sS OC))))))))
def FR:=aL (aL (aL @FV @F1) (aL @FT @F0)) (aL (aL @FY @FZ) (aL @FU (aL @FW @FX)))
def al{p:Prop}(h:p:=by first|assumption|omega|(simp only[jc];omega)|(simp only[FR];done)|fail):p:=h
def abJ{p:Prop}(h:p:=by first|assumption|omega|(simp only[jc];omega)|(simp only[FR];done)|(simp only[List.length_append,List.length_cons,List.length_nil];omega)|fail):p:=h
def LA:(∀cs,(aa.agg cs).cells=cs)/\(∀b,(aa.bool b).cells=[y b])/\(∀k n,(aa.int k n).cells=[.int k n])/\(∀s,(aa.str s).cells=[F s])/\(∀l i c,(aa.ptr l i c).cells=[.ptr l i c])/\aa.fD.cells=[.fD]/\(∀l i n e c,(aa.aJ l i n e c).cells=[.aJ l i n e c])/\aa.aB.cells=[.aB]/\(∀f a b,(aa.func f a b).cells=[.func f a b])/\aa.nilFunc.cells=[.nilFunc]/\aa.nilIface.cells=[.nilIface]:=
 ⟨λ_=>rfl,λ_=>rfl,λ_ _=>rfl,λ_=>rfl,λ_ _ _=>rfl,rfl,λ_ _ _ _ _=>rfl,rfl,λ_ _ _=>rfl,rfl,rfl⟩
def bM:=aL @bf.eq_1 (aL @eI.eq_1 (aL @aj.eq_1 (aL @bA.eq_1 (aL LA Kj))))
end
def eB(H:ad)(ok:Nat->Prop)(H':ad)(ok':Nat->Prop):Prop:=∀l b,ok l->H.get l=D b->ok' l/\H'.get l=D b
def eB.le{H:ad}{ok ok':Nat->Prop}(h:∀l,ok l->ok' l):eB H ok H ok':=λl _ a b=>⟨h l a,b⟩
def eB.mut{H H':ad}{ok:Nat->Prop}{S:Nat->Prop}(m:eF S H H')(h:∀l,ok l->¬S l):eB H ok H' ok:=λl _ a b=>⟨a,m.get b (h l a)⟩
def eB.aI{H H':ad}{ok:Nat->Prop}(m:ay H H'):eB H ok H' ok:=λ_ _ a b=>⟨a,m.get b⟩
def eB.trans{H1 d e:ad}{a b c:Nat->Prop}(h:eB H1 a d b)(k:eB d b e c):eB H1 a e c:=λl x y z=>k l x (h l x y z).1 (h l x y z).2
structure ej(α:Type) where
 esz:Nat
 V:ad->(Nat->Prop)->α->List aa->Prop
 len:∀{H ok a cs},V H ok a cs->cs.length=esz/\cs.all aa.one=true
 keep:∀{H ok H' ok'} {a:α} {cs},eB H ok H' ok'->V H ok a cs->V H' ok' a cs
def bH:Nat->Prop:=λ_=>True
section
variable {α:Type}{K:ej α}{H H':ad}{ok ok':Nat->Prop}
def g_(K:ej α)(ok:Nat->Prop)(H:ad)(l:List α)(v:aa):Prop:=(v= .aB/\l=[])\/∃L els cap,v= .aJ L 0 l.length K.esz cap/\ok L/\H.get L=D (.row Z K.esz els)/\l.length<=els.length/\(cap=I\/cap=D l.length)/\∀(i:Nat) (a:α),l[i]? =D a->∃cs,els[i]? =D cs/\K.V H (λk=>ok k/\k≠L) a cs
def aZ(K:ej α)(H:ad)(ok:Nat->Prop)(l:List α)(v:aa):Prop:=(v= .aB/\l=[])\/(∃L i cap ro els,v= .aJ L i l.length K.esz cap/\ok L/\H.get L=D (.row ro K.esz els)/\i+l.length<=els.length/\∀(j:Nat) (a:α),l[j]? =D a->∃cs,els[i+j]? =D cs/\K.V H ok a cs)\/∃L i cap,v= .aJ L i 0 K.esz cap/\l=[]
def aZ.one{l:List α}{v:aa}(h:aZ K H ok l v):v.one=true:=by
 rcases h with⟨rfl,_⟩|⟨L,i,cap,ro,els,rfl,_⟩|⟨L,i,cap,rfl,_⟩<;>rfl
def g_.nil:g_ K ok H [] .aB:= .inl ⟨rfl,rfl⟩
def aZ.nil:aZ K H ok [] .aB:= .inl ⟨rfl,rfl⟩
def g_.keep{l:List α}{v:aa}(p:eB H ok H' ok')(h:g_ K ok H l v):g_ K ok' H' l v:=by
 rcases h with h|⟨L,els,cap,f,d,e,j,n,m⟩
 ·exact .inl h
 ·refine .inr ⟨L,els,cap,f,(p _ _ d e).1,(p _ _ d e).2,j,n,λi a o=> ?_⟩;obtain⟨cs,q,r⟩:=m i a o;exact⟨cs,q,K.keep (λk b c g=>⟨⟨(p _ _ c.1 g).1,c.2⟩,(p _ _ c.1 g).2⟩) r⟩
def aZ.keep{l:List α}{v:aa}(p:eB H ok H' ok')(h:aZ K H ok l v):aZ K H' ok' l v:=by
 rcases h with h|⟨L,i,cap,ro,els,d,b,c,e,f⟩|h
 ·exact .inl h
 ·refine .inr (.inl ⟨L,i,cap,ro,els,d,(p _ _ b c).1,(p _ _ b c).2,e,λj a g=> ?_⟩);obtain⟨cs,k,m⟩:=f j a g;exact⟨cs,k,K.keep p m⟩
 ·exact .inr (.inr h)
def aZ.aI{l:List α}{v:aa}(h:aZ K H ok l v)(p:ay H H'):aZ K H' ok l v:=h.keep (.aI p)
def g_.aI{l:List α}{v:aa}(h:g_ K ok H l v)(p:ay H H'):g_ K ok H' l v:=h.keep (.aI p)
def aZ.any{l:List α}{v:aa}(h:aZ K H ok l v):aZ K H bH l v:=h.keep (.le λ_ _=>trivial)
def aZ.below{l:List α}{v:aa}(h:aZ K H ok l v):aZ K H (· <H.next) l v:=h.keep λ_ _ _ g=>⟨ad.b6 g,g⟩
def g_.aJ{l:List α}{v:aa}(h:g_ K ok H l v):aZ K H ok l v:=by
 rcases h with h|⟨L,els,cap,b,c,d,k,_,e⟩
 ·exact .inl h
 ·refine .inr (.inl ⟨L,0,cap,Z,els,b,c,d,ai,λj a f=> ?_⟩);obtain⟨cs,g,i⟩:=e j a f;exact⟨cs,by rw[Nat.zero_add];exact g,K.keep (eB.le λ_ h=>h.1) i⟩
structure eC(t e esz:Nat):Prop where
 un:P.underlying t=some (.slice e)
 ts:cD P e=some esz
 gF:∃b,j7 P e=some b/\b<=200
 y7:∃z,e1 P e=some z/\z.cells.length=esz/\z.cells.all aa.one=true
 pos:0<esz/\esz<=100
def Aa{t e:Nat}(hu:P.underlying t=D (.slice e))(l i n z:Nat)(c:Option Nat):a2 P H .len [t] [.aJ l i n z c]=D (.int .i64 n):=by simp[a2,su,hu]
def len_nil{t e:Nat}(hu:P.underlying t=D (.slice e)):a2 P H .len [t] [.aB]=D (.int .i64 0):=by simp[a2,su,hu]
def aZ.len{t e esz:Nat}(y:eC t e esz){l:List α}{v:aa}(h:aZ K H ok l v){H0:ad}:a2 P H0 .len [t] [v]=D (J X l.length):=by
 rcases h with⟨rfl,rfl⟩|⟨L,i,cap,ro,els,rfl,_⟩|⟨L,i,cap,rfl,rfl⟩
 ·exact len_nil y.un
 ·exact Aa y.un _ _ _ _ _
 ·exact Aa y.un _ _ _ _ _
def wo{t e esz:Nat}(y:eC t e esz){l i n:Nat}{c:Option Nat}{j:Int}(a:0<=j)(ae:j<n):a6 P t (.aJ l i n esz c) (J X j)=D (.ptr l (i+j.toNat) 0):=by
 simp[a6,y.un,y.ts,a,ae]
def aZ.at_{t e:Nat}(y:eC t e K.esz){l:List α}{v:aa}(h:aZ K H ok l v){j:Int}{a:α}(g:0<=j)(b:l[j.toNat]? =D a):∃L i ro els cs,a6 P t v (J X j)=D (.ptr L i 0)/\ok L/\H.get L=D (.row ro K.esz els)/\els[i]? =D cs/\K.V H ok a cs:=by
 have az:=(List.getElem?_eq_some_iff.1 b).1;rcases h with⟨rfl,rfl⟩|⟨L,i,cap,ro,els,rfl,c,d,n,f⟩|⟨L,i,cap,rfl,rfl⟩
 ·simp at b
 ·obtain⟨cs,k,m⟩:=f _ _ b;exact⟨L,i+j.toNat,ro,els,cs,wo y g ai,c,d,k,m⟩
 ·simp at b
def aZ.agg{t e:Nat}(y:eC t e K.esz)(c:dN P e=D C){l:List α}{v:aa}(h:aZ K H ok l v){j:Int}{a:α}(b:0<=j)(d:l[j.toNat]? =D a):∃p cs,a6 P t v (J X j)=D p/\aj P H e p=D (.agg cs)/\K.V H ok a cs:=by
 obtain⟨L,i,ro,els,cs,ae,_,ah,ak,au⟩:=h.at_ y b d;refine⟨_,cs,ae,?_,au⟩;rw[fY c y.ts ah ak ai,List.drop_zero,List.take_of_length_le (by have:=(K.len au).1;omega)]
def aZ.val{t e:Nat}(y:eC t e K.esz)(c:dN P e=D Z){l:List α}{v:aa}(h:aZ K H ok l v){j:Int}{a:α}(b:0<=j)(d:l[j.toNat]? =D a):∃p cs,a6 P t v (J X j)=D p/\aj P H e p=cs[0]? /\K.V H ok a cs:=by
 obtain⟨L,i,ro,els,cs,ae,_,ah,ak,au⟩:=h.at_ y b d;exact⟨_,cs,ae,fB c ah ak,au⟩
def aZ.els{l:List α}{v:aa}(h:aZ K H ok l v){t e:Nat}(y:eC t e K.esz):∃c,kf P H t K.esz v=D c/\c.length=l.length/\∀(i:Nat) (a:α),l[i]? =D a->∃cs,c[i]? =D cs/\K.V H ok a cs:=by
 rcases h with⟨rfl,rfl⟩|⟨L,i,cap,ro,els,rfl,p,f,g,k⟩|⟨L,i,cap,rfl,rfl⟩
 ·exact⟨[],by simp[kf,y.un],rfl,λi a h=>by simp at h⟩
 ·by_cases d:l.length=0
  ·refine⟨[],by simp[kf,y.un,d],by simp[d],λj a b=> ?_⟩;have:=(List.getElem?_eq_some_iff.1 b).1;omega
  ·refine⟨(els.drop i).take l.length,by simp[kf,y.un,hg,f,g,d],by simp;omega,λj a b=> ?_⟩;obtain⟨cs,n,o⟩:=k j a b;refine⟨cs,?_,o⟩;have m:=(List.getElem?_eq_some_iff.1 b).1;rw[List.getElem?_take_of_lt m,List.getElem?_drop];exact n
 ·exact⟨[],by simp[kf,y.un],rfl,λi a h=>by simp at h⟩
def ka(K:ej α)(H:ad)(c:Nat->Prop)(t:Nat)(m:List α)(w:aa):Prop:=(∃b,kf P H t K.esz w=D b/\b.length=m.length/\∀(i:Nat) (a:α),m[i]? =D a->∃cs,b[i]? =D cs/\K.V H c a cs)/\∀e,vA w e=I
def aZ.zm{l:List α}{v:aa}(h:aZ K H ok l v){t e:Nat}(y:eC t e K.esz):ka K H ok t l v:=⟨h.els y,λe=>by
 rcases h with⟨rfl,_⟩|⟨L,i,cap,ro,els,rfl,_⟩|⟨L,i,cap,rfl,_⟩<;>rfl⟩
def ka.plain{b okE':Nat->Prop}{t:Nat}{l:List α}{v:aa}(h:ka K H b t l v)(e:∀a cs,K.V H b a cs->K.V H okE' a cs):ka K H okE' t l v:=by
 obtain⟨⟨c,ae,ah,ak⟩,au⟩:=h;exact⟨⟨c,ae,ah,λi a d=>by obtain⟨cs,f,g⟩:=ak i a d;exact⟨cs,f,e _ _ g⟩⟩,au⟩
def KC{ab:Nat->Prop}{t e:Nat}(y:eC t e K.esz){l m:List α}{v w:aa}(h:g_ K ok H l v)(hm:ka K H ab t m w)(M:∀k b,ab k->H.get k=D b->ok' k/\∀L n c,v= .aJ L 0 n K.esz c->k≠L)(f:∀k b,ok k->H.get k=D b->ok' k)(aS:ok' H.next)(az:l.length+m.length<=1000000000):
  ∃B H',cS P H [t,t] v w=D (B,H')/\g_ K ok' H' (l++m) B/\H.next<=H'.next/\(∀k,k<H.next->(∀L n c,v= .aJ L 0 n K.esz c->k≠L)->H'.get k=H.get k)/\(B=v\/∃n,B= .aJ H.next 0 n K.esz I):=by
 obtain⟨⟨d,d1,d2,d3⟩,aj⟩:=hm;obtain⟨b,q,R⟩:=y.gF;obtain⟨z,s,u,_⟩:=y.y7;have r:p3 P t=false:=by simp[p3,y.un]
 have ag:=aj e;by_cases Q:m.length=0
 ·
  obtain rfl:=List.length_eq_zero_iff.1 Q;obtain rfl:=List.length_eq_zero_iff.1 (d2.trans Q);refine⟨v,H,?_,?_,b4 _,λ_ _ _=>rfl,.inl rfl⟩
  ·rcases h with⟨rfl,rfl⟩|⟨L,els,cap,rfl,_⟩
   ·simp[cS,y.un,y.ts,q,s,u,y.pos.1,r,d1]
   ·simp[cS,y.un,y.ts,q,s,u,y.pos.1,r,d1]
  ·rw[List.append_nil];exact h.keep λk b A g=>⟨f k b A g,g⟩
 have N:d.length≠0:=ai;rcases h with⟨rfl,rfl⟩|⟨L,els,cap,rfl,an,E,ao,af,G⟩
 ·have ae:d.length*b<=140737488355328:=Nat.le_trans (Nat.mul_le_mul_left _ R) (by simp at az;omega);have ah:d.length<=9223372036854775807:=by simp at az;omega
  refine⟨.aJ H.next 0 d.length K.esz I,H.push (.row Z K.esz d),by simp[cS,y.un,y.ts,q,s,u,y.pos.1,r,d1,N,ae,ah,ag,eD],?_,by simp,λk f _=>ad.eN ai,.inr ⟨_,rfl⟩⟩;refine .inr ⟨H.next,d,I,by rw[List.nil_append,d2],aS,ad.bq _ _,by rw[List.nil_append,d2];exact b4 _,.inl rfl,λi a j=> ?_⟩;obtain⟨cs,o,p⟩:=d3 i a (by simpa using j);refine⟨cs,o,K.keep (λk b f g=> ?_) p⟩;have:=ad.b6 g;exact⟨⟨(M k b f g).1,ai⟩,(ay.push _ _).get g⟩
 ·have ap:=ad.b6 E;have ae:(l.length+d.length)*b<=140737488355328:=Nat.le_trans (Nat.mul_le_mul_left _ R) ai;have ah:l.length+d.length<=9223372036854775807:=ai;have S:hg H L 0 l.length K.esz=D (els.take l.length):=by
   simp only[hg,E];simp only[true_and,Nat.zero_add];rw[if_pos ai,List.drop_zero]
  have W:(els.take l.length).length=l.length:=by simp;omega
  replace G:∀(i:Nat) (a:α),l[i]? =D a->∃cs,(els.take l.length)[i]? =D cs/\K.V H (λk=>ok k/\k≠L) a cs:=λi a j=>by
   obtain⟨cs,o,p⟩:=G i a j;exact⟨cs,by rw[List.getElem?_take_of_lt (List.getElem?_eq_some_iff.1 j).1];exact o,p⟩
  have T:∀H1:ad,H1.next=H.next->(∀k b,H.get k=D b->k≠L->H1.get k=D b)->g_ K ok' (H1.push (.row Z K.esz (els.take l.length++d))) (l++m) (.aJ H.next 0 (l.length+d.length) K.esz I):=by
   intro H1 am al;have Y:∀k b,H.get k=D b->k≠L->(H1.push (.row Z K.esz (els.take l.length++d))).get k=D b:=λk b g O=>by
    have:=ad.b6 g;rw[ad.eN ai];exact al k b g O
   refine .inr ⟨H.next,els.take l.length++d,I,by rw[List.length_append,d2],aS,by rw[<-am];exact ad.bq _ _,by rw[List.length_append,List.length_append,W,d2];exact b4 _,.inl rfl,λi a j=> ?_⟩;by_cases ak:i<l.length
   ·rw[List.getElem?_append_left ak]at j;obtain⟨c,o,p⟩:=G i a j;refine⟨c,by rw[List.getElem?_append_left ai];exact o,K.keep (λk x A g=> ?_) p⟩;have:=ad.b6 g;exact⟨⟨f k x A.1 g,ai⟩,Y k x g A.2⟩
   ·rw[List.getElem?_append_right ai]at j;obtain⟨c,o,p⟩:=d3 _ a j;refine⟨c,by rw[List.getElem?_append_right ai,W];exact o,K.keep (λk x f g=> ?_) p⟩;have:=ad.b6 g;exact⟨⟨(M k x f g).1,ai⟩,Y k x g ((M k x f g).2 L _ _ rfl)⟩
  rcases af with rfl|rfl
  ·refine⟨_,_,by simp[cS,y.un,y.ts,q,s,u,y.pos.1,r,d1,N,ae,ah,S,E],T (H.set L .dead) rfl (λk b g O=>by rw[ad.cW (Ne.symm O)];exact g),by simp,λk f U=> ?_,.inr ⟨_,rfl⟩⟩;rw[ad.eN (by simp;omega),ad.cW (λe=>U L _ _ rfl e.symm)]
  ·have aA:0<d.length:=ai;refine⟨_,_,by simp[cS,y.un,y.ts,q,s,u,y.pos.1,r,d1,N,ae,ah,S,aA],T H rfl (λk b g _=>g),by simp,λk f U=>ad.eN ai,.inr ⟨_,rfl⟩⟩
def g_.lt{l:List α}{v:aa}(h:g_ K ok H l v){L n:Nat}{c:Option Nat}(e:v= .aJ L 0 n K.esz c):L<H.next:=by
 rcases h with⟨rfl,_⟩|⟨L',els,cap,rfl,_,a,_⟩
 ·cases e
 ·cases e;exact ad.b6 a
structure bG(K:ej α)(B:Nat)(ok:Nat->Prop)(H:ad)(l:List α)(v:aa):Prop where
 eG:g_ K ok H l v
 low:∀L n c,v= .aJ L 0 n K.esz c->B<=L
def bG.nil(K:ej α)(B:Nat)(ok:Nat->Prop)(H:ad):bG K B ok H [] .aB:=⟨.nil,λ_ _ _ h=>by cases h⟩
def bG.aJ{B:Nat}{l:List α}{v:aa}(h:bG K B ok H l v):aZ K H ok l v:=h.eG.aJ
def bG.keep{B:Nat}{l:List α}{v:aa}(p:eB H ok H' ok')(h:bG K B ok H l v):bG K B ok' H' l v:=⟨h.eG.keep p,h.low⟩
def bG.aI{B:Nat}{l:List α}{v:aa}(h:bG K B ok H l v)(p:ay H H'):bG K B ok H' l v:=⟨h.eG.aI p,h.low⟩
def dt(B:Nat)(H H':ad):Prop:=H.next<=H'.next/\∀l,l<B->H'.get l=H.get l
def dt.refl(B:Nat)(H:ad):dt B H H:=⟨b4 _,λ_ _=>rfl⟩
def dt.trans{B:Nat}{H1 a b:ad}(h:dt B H1 a)(k:dt B a b):dt B H1 b:=⟨Nat.le_trans h.1 k.1,λl az=>(k.2 l az).trans (h.2 l az)⟩
def er{B:Nat}{H1 a:ad}(h:ay H1 a)(b:B<=H1.next):dt B H1 a:=⟨h.1,λl az=>h.2 l ai⟩
def dt.aI{H1 a:ad}(h:dt H1.next H1 a):ay H1 a:=h
def aZ.hP{B:Nat}{l:List α}{v:aa}(h:aZ K H (· <B) l v)(p:dt B H H'):aZ K H' (· <B) l v:=h.keep λk b a g=>⟨a,by rw[p.2 k a];exact g⟩
def bG.app{B:Nat}{j:Nat->Prop}{t e:Nat}(y:eC t e K.esz){l m:List α}{v w:aa}(h:bG K B ok H l v)(r:B<=H.next)(hm:ka K H j t m w)(s:∀k b,j k->H.get k=D b->ok' k/\∀L n c,v= .aJ L 0 n K.esz c->k≠L)(i:∀k b,ok k->H.get k=D b->ok' k)(aS:ok' H.next)(az:l.length+m.length<=1000000000):
  ∃a H',cS P H [t,t] v w=D (a,H')/\bG K B ok' H' (l++m) a/\dt B H H'/\(∀k,k<H.next->(∀L n c,v= .aJ L 0 n K.esz c->k≠L)->H'.get k=H.get k)/\(a=v\/∃n,a= .aJ H.next 0 n K.esz I):=by
 obtain⟨a,H',o,p,q,f,g⟩:=KC y h.eG hm s i aS az;refine⟨a,H',o,⟨p,λL n c d=> ?_⟩,⟨q,λk i=>f k ai λL n c d=>by have:=h.low L n c d;omega⟩,f,g⟩;rcases g with rfl|⟨u,rfl⟩
 ·exact h.low L n c d
 ·cases d;exact r
def ka.one{d:Nat->Prop}{t e:Nat}(y:eC t e K.esz){a:α}{cs:List aa}{ro:Bool}{cap:Option Nat}{L:Nat}(g:H.get L=D (.row ro K.esz [cs]))(f:K.V H d a cs):ka K H d t [a] (.aJ L 0 1 K.esz cap):=by
 refine⟨⟨[cs],by simp[kf,y.un,hg,g],rfl,λi b c=> ?_⟩,λ_=>rfl⟩;rcases i with _|i
 ·cases c;exact⟨cs,rfl,f⟩
 ·simp at c
def nI{t e esz:Nat}(y:eC t e esz)(l:Nat){v:aa}{cs:List aa}(aA:v.cells=cs)(h:cs.length=esz)(a7:cs.all aa.one=C):cv P l t 1 [(0,v)]=D (.aJ l 0 1 esz (D 1),.row Z esz [cs]):=by
 obtain⟨z,a,b,c⟩:=y.y7;have ae:1*esz<=16777216:=by have:=y.pos.2;omega
 have ah:esz<=16777216:=by have:=y.pos.2;omega
 have d:∀x∈z.cells,x.one=true:=by simpa using c
 simp[cv,y.un,y.ts,a,b,jB,h,a7,ah,aA];rw[decide_eq_true d];rfl
def bG.vB{B:Nat}{H1:ad}{t e:Nat}(y:eC t e K.esz){l:List α}{v:aa}{a:α}{cs:List aa}(h:bG K B ok H l v)(s:B<=H.next)(p:ay H H1)(u:K.V H1 (λk=>H.next<=k) a cs)(i:∀k,ok k\/H.next<=k->ok' k)(az:l.length<=999999999):
  ∃f H',cS P (H1.push (.row Z K.esz [cs])) [t,t] v (.aJ H1.next 0 1 K.esz (D 1))=D (f,H')/\bG K B ok' H' (l++[a]) f/\dt B H H'/\H1.next<H'.next/\(∀k,k<H1.next->(∀L n c,v= .aJ L 0 n K.esz c->k≠L)->H'.get k=H1.get k):=by
 have pp:=ay.push H1 (.row Z K.esz [cs]);have z:=p.1;have w:∀L n c,v= .aJ L 0 n K.esz c->L<H.next:=λL n c j=>h.eG.lt j
 obtain⟨f,H',o,q,m,r,_⟩:=bG.app (ok:=ok) (ok':=ok') y ((h.aI p).aI pp) (by simp;omega) (ka.one y (ad.bq _ _) (K.keep (.aI pp) u)) (λk b d g=>⟨i k (.inr d),λL n c j=>by have:=w L n c j;omega⟩) (λk b d _=>i k (.inl d)) (i _ (.inr (by simp;omega))) (by simp;omega);refine⟨f,H',o,q,((er p s).trans (er pp ai)).trans m,by have:=m.1;simp at this;omega,λk d x=> ?_⟩;rw[r k (by simp;omega) x,ad.eN ai]
def jt(K:ej α)(v:aa):Prop:=∀L n c,v= .aJ L 0 n K.esz c->c=I\/n=0
def jt.app{v a:aa}{B:Nat}(h:jt K v)(e:a=v\/∃n,a= .aJ B 0 n K.esz I):jt K a:=by
 rcases e with rfl|⟨n,rfl⟩
 ·exact h
 ·intro L n c e;cases e;exact .inl rfl
def bG.pop{B:Nat}{t e:Nat}(y:eC t e K.esz){l:List α}{a:α}{v:aa}(h:bG K B ok H (l++[a]) v)(aA:jt K v):∃w,fX P t v I (D (J X l.length)) I=D w/\bG K B ok H l w/\jt K w:=by
 obtain⟨ae,ah⟩:=h;rcases ae with⟨_,az⟩|⟨L,els,cap,rfl,g,j,k,o,m⟩
 ·simp at az
 ·simp only[List.length_append,List.length_cons,List.length_nil,Nat.zero_add]at k aA ah ⊢;rcases aA L _ _ rfl with rfl|p
  ·refine⟨.aJ L 0 l.length K.esz I,?_,⟨.inr ⟨L,els,I,rfl,g,j,ai,.inl rfl,λi b f=> ?_⟩,λL' n c d=> ?_⟩,λL' n c d=> ?_⟩
   ·have ae:(l.length:Int)<=(l.length:Int)+1:=ai;simp[fX,y.un,y.ts,eK,ae]
   ·refine m i b ?_;rw[List.getElem?_append_left (List.getElem?_eq_some_iff.1 f).1];exact f
   ·cases d;exact ah _ _ _ rfl
   ·cases d;exact .inl rfl
  ·omega
def p9{t e esz:Nat}{z:aa}{b:Nat}(hu:P.underlying t=D (.slice e))(g:cD P e=D esz)(a:j7 P e=D b)(h:e1 P e=D z)(i:z.cells.length=esz)(j:z.cells.all aa.one=C)(f:0<esz)(c:b<=100000)(l n:Nat)(aS:n<=1000000000):e5 (fw P ⟨.leaf,l⟩ t (.int .i64 n) (.int .i64 n)) l=D (.aJ l 0 n esz (D n),.row Z esz (List.replicate n z.cells)):=by
 have ae:(b:Int)*(n:Int)<=281474976710656:=by
  have:b*n<=100000*1000000000:=Nat.mul_le_mul c aS;have:((b*n:Nat):Int)<=281474976710656:=ai;simpa using this
 have ah:(n:Int)<=9223372036854775807:=ai;have ak:(0:Int)<=(n:Int):=ai;have d:=ad.bq (⟨.leaf,l⟩:ad) (.row Z esz (List.replicate n z.cells));simp only[fw,hu,g,a,h];rw[if_pos (by simp only[true_and];exact⟨ak,Int.le_refl _,ah,ae,i,f,j⟩)];simp only[e5,Int.toNat_natCast,d];rw[if_pos (by simp),if_pos (show(bL.row Z esz (List.replicate n z.cells)).iZ=C from rfl)]
end
section
set_option maxRecDepth 100000
noncomputable section
def xS(G:an)(a:aa)(H:ad):O:=af (ar P .eql 30 C a aa.aB) λx4=>aP (D x4) (D (aa.aB,H)) (bx H (D (.aJ (H).next 0 0 1 (D 0),.row Z 1 [])) λx5 ae=>aU ae (cS P ae [30,30] x5 a) λx7 ah=>D (x7,ah))
def Yt(G:an)(N:Nat)(a:aa)(H:ad):bd Tryz.f43 G N (bO [a]) H=xS G a H:=by
 refine bR (A:=bd Tryz.f43 G N) (aw _) ?_;delta xS;kernel_rfl
def rU(G:an)(N:Nat)(x6:aa)(H:ad):O:=some (x6,H)
def Zh(G:an)(N:Nat):∀R H,aX P G N (j (j (j (j (j (bb Tryz.f79)))))) (aR Tryz.f79) [] (aR Tryz.f79) R H=rU G N (R 6) H:=by
 refine bj (aw _) λR H=> ?_
 delta rU;kernel_rfl
def ya(G:an)(N:Nat)(d:aa->aa->aa->aa->ad->O)(x6 b:aa)(c a:aa)(H:ad):O:=af (ar P .lss 3 Z a c) λe=>aP (D e) (af (a6 P 198 b a) λf=>af (aj P H 53 f) λg=>aU H (cS P H [53,53] x6 g) λh ae=>af (ar P .add 3 C a (J X 1)) λi=>d h b c i ae) (rU G N x6 H)
def rW(G:an)(N:Nat):Nat->aa->aa->aa->aa->ad->O
 |0,_,_,_,_,_=>I
 |n+1,x6,a,b,c,H=>ya G N (rW G N n) x6 a b c H
def Ze(G:an)(N:Nat)(b:aa->aa->aa->aa->ad->O):∀R H,aX P G N (aE (aE (j (aE (j (j (j (j (bb Tryz.f79))))))))) (λR H=>b (R 6) (R 25) (R 26) (R 27) H) [(2,(λR H=>rU G N (R 6) H))] (aR Tryz.f79) R H=ya G N b (R 6) (R 25) (R 26) (R 27) H:=by
 refine bj (aw _) λR H=> ?_
 delta ya;generalize rU G N=a;revert a;refine id ?_;intro a;kernel_rfl
def o_(G:an)(N:Nat)(a d:aa)(H:ad):O:=aU H (G 133 [aa.aB,d] H) λb ae=>bf P .len [198] [a] ae λc=>rW G N N b a c (J X 0) ae
def Zg(G:an)(N:Nat):∀R H,aX P G N (j (j (j (bb Tryz.f79)))) (aR Tryz.f79) [] (aR Tryz.f79) R H=o_ G N (R 0) (R 3) H:=by
 refine bj ((aF ag ((aF ag (Zh G N) ((aF ag ((bX ag ((cj (k:=λm R H=>rW G N m (R 6) (R 25) (R 26) (R 27) H) ag (λR H=>ag) (λm=>Ze G N (rW G N m)))))) (aw _))))) (aw _))) λR H=> ?_
 delta o_;generalize rW G N N=a;revert a;refine id ?_;intro a;kernel_rfl
def rV(G:an)(N:Nat)(a:aa->aa->aa->aa->aa->ad->O)(b d:aa)(e x10 x11:aa)(H:ad):O:=af (ar P .add 3 C x11 (J X 1)) λc=>a b d e x10 c H
def Zi(G:an)(N:Nat)(a:aa->aa->aa->aa->aa->ad->O):∀R H,aX P G N (j (j (j (aE (aE (j (aE (j (j (bb Tryz.f79)))))))))) (λR H=>a (R 0) (R 3) (R 9) (R 10) (R 11) H) [(0,(λR H=>o_ G N (R 0) (R 3) H))] (aR Tryz.f79) R H=rV G N a (R 0) (R 3) (R 9) (R 10) (R 11) H:=by
 refine bj (aw _) λR H=> ?_
 delta rV;kernel_rfl
def yb(G:an)(N:Nat)(d:aa->aa->aa->aa->aa->ad->O)(a e:aa)(c x10 x11:aa)(H:ad):O:=af (ar P .lss 3 Z x11 x10) λx12=>aP (D x12) (af (a6 P 198 c x11) λf=>af (aj P H 53 f) λg=>bf P .len [53] [g] H λh=>af (ar P .add 3 Z e h) λb=>af (ar P .lss 3 C b (J X 0)) λi=>aP (D i) (af (ih P 9 (F [108,101,110,32,111,117,116,32,111,102,32,114,97,110,103,101])) λj=>af ((I:Option aa)) λy=>rV G N d a b c x10 x11 H) (rV G N d a b c x10 x11 H)) (o_ G N a e H)
def rX(G:an)(N:Nat):Nat->aa->aa->aa->aa->aa->ad->O
 |0,_,_,_,_,_,_=>I
 |n+1,a,b,c,x10,x11,H=>yb G N (rX G N n) a b c x10 x11 H
def Zf(G:an)(N:Nat)(a:aa->aa->aa->aa->aa->ad->O):∀R H,aX P G N (aE (aE (j (aE (j (j (bb Tryz.f79))))))) (λR H=>a (R 0) (R 3) (R 9) (R 10) (R 11) H) [(0,(λR H=>o_ G N (R 0) (R 3) H))] (aR Tryz.f79) R H=yb G N a (R 0) (R 3) (R 9) (R 10) (R 11) H:=by
 refine bj ((aF ag ((aF ag ((aF ag (Zi G N a) (aw _))) (aw _))) (aw _))) λR H=> ?_
 delta yb;generalize o_ G N=b;generalize rV G N a=c;revert b c;refine id ?_;intro b c;kernel_rfl
def rT(G:an)(N:Nat)(a:aa)(H:ad):O:=bf P .len [198] [a] H λx10=>rX G N N a (J X 0) a x10 (J X 0) H
def H9(G:an)(N:Nat)(b:aa)(H:ad):bd Tryz.f79 G N (bO [b]) H=rT G N b H:=by
 refine bR (A:=bd Tryz.f79 G N) ((aF ag ((aF ag ((aF ag (Zg G N) ((aF ag ((bX ag ((cj (k:=λm R H=>rX G N m (R 0) (R 3) (R 9) (R 10) (R 11) H) ag (λR H=>ag) (λm=>Zf G N (rX G N m)))))) (aw _))))) (aw _))) (aw _))) ?_;delta rT;generalize rX G N N=a;revert a;refine id ?_;intro a;kernel_rfl
def U5(N:Nat){a:aa}{H:ad}{r:aa×ad}(h:rT (aC P ax) N a H=D r):aC P ax 79 [a] H=D r:=
 cp ag Tryz.func79 ag ag ag ((H9 (aC P ax) N a H).trans h)
def r0(G:an)(N:Nat)(H:ad):O:=some ((y C),H)
def Zm(G:an)(N:Nat):∀R H,aX P G N (j (j (j (bb Tryz.f81)))) (aR Tryz.f81) [] (aR Tryz.f81) R H=r0 G N H:=by
 refine bj (aw _) λR H=> ?_
 delta r0;kernel_rfl
def vb(G:an)(N:Nat)(L1:aa->aa->aa->aa->ad->O)(b x1:aa)(x12 a:aa)(H:ad):O:=af (ar P .lss 3 Z a x12) λc=>aP (D c) (af (a6 P 30 b a) λd=>af (aj P H 3 d) λe=>af (a6 P 30 x1 a) λf=>af (aj P H 3 f) λg=>af (ar P .neq 3 Z e g) λh=>aP (D h) (D ((y Z),H)) (af (ar P .add 3 C a (J X 1)) λi=>L1 b x1 x12 i H)) (r0 G N H)
def nF(G:an)(N:Nat):Nat->aa->aa->aa->aa->ad->O
 |0,_,_,_,_,_=>I
 |n+1,a,x1,x12,b,H=>vb G N (nF G N n) a x1 x12 b H
def Zl(G:an)(N:Nat)(L1:aa->aa->aa->aa->ad->O):∀R H,aX P G N (aE (aE (j (aE (j (j (bb Tryz.f81))))))) (λR H=>L1 (R 0) (R 1) (R 12) (R 13) H) [(0,(λR H=>r0 G N H))] (aR Tryz.f81) R H=vb G N L1 (R 0) (R 1) (R 12) (R 13) H:=by
 refine bj (aw _) λR H=> ?_
 delta vb;generalize r0 G N=a;revert a;refine id ?_;intro a;kernel_rfl
def pa(G:an)(N:Nat)(a x1:aa)(H:ad):O:=bf P .len [30] [a] H λx7=>bf P .len [30] [x1] H λb=>af (ar P .neq 3 Z x7 b) λx10=>aP (D x10) (D ((y Z),H)) (bf P .len [30] [a] H λx12=>nF G N N a x1 x12 (J X 0) H)
def Ia(G:an)(N:Nat)(b:aa)(x1:aa)(H:ad):bd Tryz.f81 G N (bO [b,x1]) H=pa G N b x1 H:=by
 refine bR (A:=bd Tryz.f81 G N) ((aF ag ((aF ag ((aF ag (Zm G N) ((aF ag ((bX ag ((cj (k:=λm R H=>nF G N m (R 0) (R 1) (R 12) (R 13) H) ag (λR H=>ag) (λm=>Zl G N (nF G N m)))))) (aw _))))) (aw _))) (aw _))) ?_;delta pa;generalize nF G N N=a;revert a;refine id ?_;intro a;kernel_rfl
def U7(N:Nat){a x1:aa}{H:ad}{r:aa×ad}(h:pa (aC P ax) N a x1 H=D r):aC P ax 81 [a,x1] H=D r:=
 cp ag Tryz.func81 ag ag ag ((Ia (aC P ax) N a x1 H).trans h)
def yh(G:an)(a x1:aa)(H:ad):O:=aU H (G 134 [a,x1] H) λx7 ae=>af (ar P .geq 3 C x7 (J X 0)) λx8=>D (x8,ae)
def Zs(G:an)(N:Nat)(a:aa)(x1:aa)(H:ad):bd Tryz.f94 G N (bO [a,x1]) H=yh G a x1 H:=by
 refine bR (A:=bd Tryz.f94 G N) (aw _) ?_;delta yh;kernel_rfl
def yk(G:an)(a x1:aa)(H:ad):O:=aU H (G 146 [a,x1] H) λx7 ae=>af (ar P .geq 3 C x7 (J X 0)) λx8=>D (x8,ae)
def Zw(G:an)(N:Nat)(a:aa)(x1:aa)(H:ad):bd Tryz.f99 G N (bO [a,x1]) H=yk G a x1 H:=by
 refine bR (A:=bd Tryz.f99 G N) (aw _) ?_;delta yk;kernel_rfl
def oK(G:an)(a:aa)(H:ad):O:=some (a,H)
def Wc(G:an)(N:Nat):∀R H,aX P G N (j (j (j (bb Tryz.f133)))) (aR Tryz.f133) [] (aR Tryz.f133) R H=oK G (R 0) H:=by
 refine bj (aw _) λR H=> ?_
 delta oK;kernel_rfl
def oJ(G:an)(a x1:aa)(H:ad):O:=bf P .cap [53] [a] H λx10=>bf P .len [53] [a] H λx12=>af (ar P .sub 3 Z x10 x12) λc=>af (ar P .sub 3 Z x1 c) λb=>af (ar P .gtr 3 C b (J X 0)) λd=>aP (D d) (bf P .cap [53] [a] H λe=>af (fX P 53 a I (D e) I) λf=>aU H (cS P H [53,3] f b) λg ae=>bf P .len [53] [a] ae λh=>af (fX P 53 g I (D h) I) λi=>oK G i ae) (oK G a H)
def Wb(G:an)(N:Nat):∀R H,aX P G N (j (j (bb Tryz.f133))) (aR Tryz.f133) [] (aR Tryz.f133) R H=oJ G (R 0) (R 1) H:=by
 refine bj ((aF ag (Wc G N) (aw _))) λR H=> ?_
 delta oJ;generalize oK G=a;revert a;refine id ?_;intro a;kernel_rfl
def oI(G:an)(a x1:aa)(H:ad):O:=af (ar P .lss 3 C x1 (J X 0)) λx6=>aP (D x6) (af (ih P 9 (F [99,97,110,110,111,116,32,98,101,32,110,101,103,97,116,105,118,101])) λx7=>af ((I:Option aa)) λy=>oJ G a x1 H) (oJ G a x1 H)
def G0(G:an)(N:Nat)(b:aa)(x1:aa)(H:ad):bd Tryz.f133 G N (bO [b,x1]) H=oI G b x1 H:=by
 refine bR (A:=bd Tryz.f133 G N) ((aF ag ((aF ag (Wb G N) (aw _))) (aw _))) ?_;delta oI;generalize oJ G=a;revert a;refine id ?_;intro a;kernel_rfl
def TN(N:Nat){a x1:aa}{H:ad}{r:aa×ad}(h:oI (aC P ax) a x1 H=D r):aC P ax 133 [a,x1] H=D r:=
 cp ag Tryz.func133 ag ag ag ((G0 (aC P ax) N a x1 H).trans h)
def qx(G:an)(N:Nat)(H:ad):O:=some ((J X (-1)),H)
def We(G:an)(N:Nat):∀R H,aX P G N (j (j (bb Tryz.f134))) (aR Tryz.f134) [] (aR Tryz.f134) R H=qx G N H:=by
 refine bj (aw _) λR H=> ?_
 delta qx;kernel_rfl
def tM(G:an)(N:Nat)(L1:aa->aa->aa->aa->ad->O)(a x1:aa)(x7 x8:aa)(H:ad):O:=af (ar P .lss 3 Z x8 x7) λf=>aP (D f) (af (a6 P 30 a x8) λb=>af (aj P H 3 b) λc=>af (ar P .eql 3 Z x1 c) λd=>aP (D d) (D (x8,H)) (af (ar P .add 3 C x8 (J X 1)) λe=>L1 a x1 x7 e H)) (qx G N H)
def mH(G:an)(N:Nat):Nat->aa->aa->aa->aa->ad->O
 |0,_,_,_,_,_=>I
 |n+1,a,x1,x7,x8,H=>tM G N (mH G N n) a x1 x7 x8 H
def Wd(G:an)(N:Nat)(L1:aa->aa->aa->aa->ad->O):∀R H,aX P G N (aE (aE (j (aE (j (bb Tryz.f134)))))) (λR H=>L1 (R 0) (R 1) (R 7) (R 8) H) [(0,(λR H=>qx G N H))] (aR Tryz.f134) R H=tM G N L1 (R 0) (R 1) (R 7) (R 8) H:=by
 refine bj (aw _) λR H=> ?_
 delta tM;generalize qx G N=a;revert a;refine id ?_;intro a;kernel_rfl
def qw(G:an)(N:Nat)(a x1:aa)(H:ad):O:=bf P .len [30] [a] H λx7=>mH G N N a x1 x7 (J X 0) H
def G1(G:an)(N:Nat)(b:aa)(x1:aa)(H:ad):bd Tryz.f134 G N (bO [b,x1]) H=qw G N b x1 H:=by
 refine bR (A:=bd Tryz.f134 G N) ((aF ag ((aF ag (We G N) ((aF ag ((bX ag ((cj (k:=λm R H=>mH G N m (R 0) (R 1) (R 7) (R 8) H) ag (λR H=>ag) (λm=>Wd G N (mH G N m)))))) (aw _))))) (aw _))) ?_;delta qw;generalize mH G N N=a;revert a;refine id ?_;intro a;kernel_rfl
def TO(N:Nat){a x1:aa}{H:ad}{r:aa×ad}(h:qw (aC P ax) N a x1 H=D r):aC P ax 134 [a,x1] H=D r:=
 cp ag Tryz.func134 ag ag ag ((G1 (aC P ax) N a x1 H).trans h)
def tP(G:an)(N:Nat)(H:ad):O:=some ((J X (-1)),H)
def Wk(G:an)(N:Nat):∀R H,aX P G N (j (j (bb Tryz.f146))) (aR Tryz.f146) [] (aR Tryz.f146) R H=tP G N H:=by
 refine bj (aw _) λR H=> ?_
 delta tP;kernel_rfl
def A3(G:an)(N:Nat)(L1:aa->aa->aa->aa->ad->O)(a x1:aa)(x7 x8:aa)(H:ad):O:=af (ar P .lss 3 Z x8 x7) λf=>aP (D f) (af (a6 P 31 a x8) λb=>af (aj P H 30 b) λc=>se G H x1 [c] λd ae=>aP (D d) (D (x8,ae)) (af (ar P .add 3 C x8 (J X 1)) λe=>L1 a x1 x7 e ae)) (tP G N H)
def tQ(G:an)(N:Nat):Nat->aa->aa->aa->aa->ad->O
 |0,_,_,_,_,_=>I
 |n+1,a,x1,x7,x8,H=>A3 G N (tQ G N n) a x1 x7 x8 H
def Wi(G:an)(N:Nat)(L1:aa->aa->aa->aa->ad->O):∀R H,aX P G N (aE (aE (j (aE (j (bb Tryz.f146)))))) (λR H=>L1 (R 0) (R 1) (R 7) (R 8) H) [(0,(λR H=>tP G N H))] (aR Tryz.f146) R H=A3 G N L1 (R 0) (R 1) (R 7) (R 8) H:=by
 refine bj (aw _) λR H=> ?_
 delta A3;generalize tP G N=a;revert a;refine id ?_;intro a;kernel_rfl
def xu(G:an)(N:Nat)(a x1:aa)(H:ad):O:=bf P .len [31] [a] H λx7=>tQ G N N a x1 x7 (J X 0) H
def Wj(G:an)(N:Nat)(b:aa)(x1:aa)(H:ad):bd Tryz.f146 G N (bO [b,x1]) H=xu G N b x1 H:=by
 refine bR (A:=bd Tryz.f146 G N) ((aF ag ((aF ag (Wk G N) ((aF ag ((bX ag ((cj (k:=λm R H=>tQ G N m (R 0) (R 1) (R 7) (R 8) H) ag (λR H=>ag) (λm=>Wi G N (tQ G N m)))))) (aw _))))) (aw _))) ?_;delta xu;generalize tQ G N N=a;revert a;refine id ?_;intro a;kernel_rfl
def qG(G:an)(a x1:aa)(H:ad):O:=aU H (G 219 [a,x1] H) λx7 ae=>af (ar P .geq 3 C x7 (J X 0)) λx8=>D (x8,ae)
def Hb(G:an)(N:Nat)(a:aa)(x1:aa)(H:ad):bd Tryz.f177 G N (bO [a,x1]) H=qG G a x1 H:=by
 refine bR (A:=bd Tryz.f177 G N) (aw _) ?_;delta qG;kernel_rfl
def T3(N:Nat){a x1:aa}{H:ad}{r:aa×ad}(h:qG (aC P ax) a x1 H=D r):aC P ax 177 [a,x1] H=D r:=
 cp ag Tryz.func177 ag ag ag ((Hb (aC P ax) N a x1 H).trans h)
def qY(G:an)(N:Nat)(H:ad):O:=some ((J X (-1)),H)
def XD(G:an)(N:Nat):∀R H,aX P G N (j (j (bb Tryz.f219))) (aR Tryz.f219) [] (aR Tryz.f219) R H=qY G N H:=by
 refine bj (aw _) λR H=> ?_
 delta qY;kernel_rfl
def uE(G:an)(N:Nat)(L1:aa->aa->aa->aa->ad->O)(a x1:aa)(x7 x8:aa)(H:ad):O:=af (ar P .lss 3 Z x8 x7) λf=>aP (D f) (af (a6 P 53 a x8) λb=>af (aj P H 56 b) λc=>se G H x1 [c] λd ae=>aP (D d) (D (x8,ae)) (af (ar P .add 3 C x8 (J X 1)) λe=>L1 a x1 x7 e ae)) (qY G N H)
def mX(G:an)(N:Nat):Nat->aa->aa->aa->aa->ad->O
 |0,_,_,_,_,_=>I
 |n+1,a,x1,x7,x8,H=>uE G N (mX G N n) a x1 x7 x8 H
def XC(G:an)(N:Nat)(L1:aa->aa->aa->aa->ad->O):∀R H,aX P G N (aE (aE (j (aE (j (bb Tryz.f219)))))) (λR H=>L1 (R 0) (R 1) (R 7) (R 8) H) [(0,(λR H=>qY G N H))] (aR Tryz.f219) R H=uE G N L1 (R 0) (R 1) (R 7) (R 8) H:=by
 refine bj (aw _) λR H=> ?_
 delta uE;generalize qY G N=a;revert a;refine id ?_;intro a;kernel_rfl
def qX(G:an)(N:Nat)(a x1:aa)(H:ad):O:=bf P .len [53] [a] H λx7=>mX G N N a x1 x7 (J X 0) H
def Hs(G:an)(N:Nat)(b:aa)(x1:aa)(H:ad):bd Tryz.f219 G N (bO [b,x1]) H=qX G N b x1 H:=by
 refine bR (A:=bd Tryz.f219 G N) ((aF ag ((aF ag (XD G N) ((aF ag ((bX ag ((cj (k:=λm R H=>mX G N m (R 0) (R 1) (R 7) (R 8) H) ag (λR H=>ag) (λm=>XC G N (mX G N m)))))) (aw _))))) (aw _))) ?_;delta qX;generalize mX G N N=a;revert a;refine id ?_;intro a;kernel_rfl
def Uj(N:Nat){a x1:aa}{H:ad}{r:aa×ad}(h:qX (aC P ax) N a x1 H=D r):aC P ax 219 [a,x1] H=D r:=
 cp ag Tryz.func219 ag ag ag ((Hs (aC P ax) N a x1 H).trans h)
def rp(G:an)(a x1:aa)(H:ad):O:=aU H (G 261 [a,x1] H) λx7 ae=>af (ar P .geq 3 C x7 (J X 0)) λx8=>D (x8,ae)
def HP(G:an)(N:Nat)(a:aa)(x1:aa)(H:ad):bd Tryz.f252 G N (bO [a,x1]) H=rp G a x1 H:=by
 refine bR (A:=bd Tryz.f252 G N) (aw _) ?_;delta rp;kernel_rfl
def UF(N:Nat){a x1:aa}{H:ad}{r:aa×ad}(h:rp (aC P ax) a x1 H=D r):aC P ax 252 [a,x1] H=D r:=
 cp ag Tryz.func252 ag ag ag ((HP (aC P ax) N a x1 H).trans h)
def ry(G:an)(N:Nat)(H:ad):O:=some ((J X (-1)),H)
def Ye(G:an)(N:Nat):∀R H,aX P G N (j (j (bb Tryz.f261))) (aR Tryz.f261) [] (aR Tryz.f261) R H=ry G N H:=by
 refine bj (aw _) λR H=> ?_
 delta ry;kernel_rfl
def uN(G:an)(N:Nat)(L1:aa->aa->aa->aa->ad->O)(a x1:aa)(x7 x8:aa)(H:ad):O:=af (ar P .lss 3 Z x8 x7) λf=>aP (D f) (af (a6 P 30 a x8) λb=>af (aj P H 3 b) λc=>se G H x1 [c] λd ae=>aP (D d) (D (x8,ae)) (af (ar P .add 3 C x8 (J X 1)) λe=>L1 a x1 x7 e ae)) (ry G N H)
def nd(G:an)(N:Nat):Nat->aa->aa->aa->aa->ad->O
 |0,_,_,_,_,_=>I
 |n+1,a,x1,x7,x8,H=>uN G N (nd G N n) a x1 x7 x8 H
def Yd(G:an)(N:Nat)(L1:aa->aa->aa->aa->ad->O):∀R H,aX P G N (aE (aE (j (aE (j (bb Tryz.f261)))))) (λR H=>L1 (R 0) (R 1) (R 7) (R 8) H) [(0,(λR H=>ry G N H))] (aR Tryz.f261) R H=uN G N L1 (R 0) (R 1) (R 7) (R 8) H:=by
 refine bj (aw _) λR H=> ?_
 delta uN;generalize ry G N=a;revert a;refine id ?_;intro a;kernel_rfl
def ru(G:an)(N:Nat)(a x1:aa)(H:ad):O:=bf P .len [30] [a] H λx7=>nd G N N a x1 x7 (J X 0) H
def HU(G:an)(N:Nat)(b:aa)(x1:aa)(H:ad):bd Tryz.f261 G N (bO [b,x1]) H=ru G N b x1 H:=by
 refine bR (A:=bd Tryz.f261 G N) ((aF ag ((aF ag (Ye G N) ((aF ag ((bX ag ((cj (k:=λm R H=>nd G N m (R 0) (R 1) (R 7) (R 8) H) ag (λR H=>ag) (λm=>Yd G N (nd G N m)))))) (aw _))))) (aw _))) ?_;delta ru;generalize nd G N N=a;revert a;refine id ?_;intro a;kernel_rfl
def UK(N:Nat){a x1:aa}{H:ad}{r:aa×ad}(h:ru (aC P ax) N a x1 H=D r):aC P ax 261 [a,x1] H=D r:=
 cp ag Tryz.func261 ag ag ag ((HU (aC P ax) N a x1 H).trans h)
def xQ(G:an)(a:aa)(H:ad):O:=aU H (G 95 [a] H) λx5 ae=>aU ae (G 96 [x5] ae) λx7 ah=>D (x5,ah)
def Yr(G:an)(N:Nat)(a:aa)(H:ad):bd Tryz.f41 G N (bO [a]) H=xQ G a H:=by
 refine bR (A:=bd Tryz.f41 G N) (aw _) ?_;delta xQ;kernel_rfl
def xR(G:an)(a:aa)(H:ad):O:=bx H (b0 (H).next a) λx1 ae=>D ((.func (.func 97) [] [x1]),ae)
def Ys(G:an)(N:Nat)(a:aa)(H:ad):bd Tryz.f42 G N (bO [a]) H=xR G a H:=by
 refine bR (A:=bd Tryz.f42 G N) (aw _) ?_;delta xR;kernel_rfl
def Bl(G:an)(N:Nat)(L0:aa->aa->aa->aa->ad->O)(a x5:aa)(x6 x7:aa)(H:ad):O:=af (ar P .lss 3 Z x7 x6) λx8=>aP (D x8) (af (a6 P 30 x5 x7) λe=>af (aj P H 3 e) λx10=>se G H a [x10] λb ae=>af (dg .not b) λc=>aP (D c) (D (.tuple [],ae)) (af (ar P .add 3 C x7 (J X 1)) λd=>L0 a x5 x6 d ae)) (D (.tuple [],H))
def vd(G:an)(N:Nat):Nat->aa->aa->aa->aa->ad->O
 |0,_,_,_,_,_=>I
 |n+1,a,x5,x6,x7,H=>Bl G N (vd G N n) a x5 x6 x7 H
def Zt(G:an)(N:Nat)(L0:aa->aa->aa->aa->ad->O):∀R H,aX P G N (aE (aE (j (bb Tryz.f97)))) (λR H=>L0 (R 0) (R 5) (R 6) (R 7) H) [(0,(aR Tryz.f97))] (aR Tryz.f97) R H=Bl G N L0 (R 0) (R 5) (R 6) (R 7) H:=by
 refine bj (aw _) λR H=> ?_
 delta Bl;kernel_rfl
def yi(G:an)(N:Nat)(a x1:aa)(H:ad):O:=af (aj P H 30 x1) λx5=>bf P .len [30] [x5] H λx6=>vd G N N a x5 x6 (J X 0) H
def Zu(G:an)(N:Nat)(b:aa)(x1:aa)(H:ad):bd Tryz.f97 G N (bO [b,x1]) H=yi G N b x1 H:=by
 refine bR (A:=bd Tryz.f97 G N) ((aF ag ((bX ag ((cj (k:=λm R H=>vd G N m (R 0) (R 5) (R 6) (R 7) H) ag (λR H=>ag) (λm=>Zt G N (vd G N m)))))) (aw _))) ?_;delta yi;generalize vd G N N=a;revert a;refine id ?_;intro a;kernel_rfl
end
end
def bu:ej Int:=⟨1,λ_ _ n cs=>cs=[J X n],by rintro _ _ _ _ rfl;exact⟨rfl,rfl⟩,λ_ h=>h⟩
def cQ{α:Type}(K:ej α):ej (List α):=⟨1,λH ok l cs=>∃v,cs=[v]/\aZ K H ok l v,by
 rintro _ _ _ _ ⟨v,rfl,h⟩;exact⟨rfl,by simp[h.one]⟩,by
 rintro _ _ _ _ _ _ p ⟨v,rfl,h⟩;exact⟨v,rfl,h.keep p⟩⟩
def cU:eC 30 3 1:=⟨ag,ag,⟨8,ag,b_⟩,⟨J X 0,ag,rfl,rfl⟩,b_⟩
def f_:eC 31 30 1:=⟨ag,ag,⟨24,ag,b_⟩,⟨.aB,ag,rfl,rfl⟩,b_⟩
def Ah:eC 104 4 1:=⟨ag,ag,⟨1,ag,b_⟩,⟨y Z,ag,rfl,rfl⟩,b_⟩
section
variable {H:ad}{ok:Nat->Prop}
def aZ.int{l:List Int}{v:aa}(h:aZ bu H ok l v){j:Int}{a:Int}(b:0<=j)(c:l[j.toNat]? =D a):∃p,a6 P 30 v (J X j)=D p/\aj P H 3 p=D (J X a):=by
 obtain⟨p,cs,ae,ah,ak⟩:=aZ.val (K:=bu) cU yw h b c;exact⟨p,ae,by rw[ah,show cs=[_]from ak];rfl⟩
def aZ.list{l:List (List Int)}{v:aa}(h:aZ (cQ bu) H ok l v){j:Int}{a:List Int}(b:0<=j)(c:l[j.toNat]? =D a):∃p w,a6 P 31 v (J X j)=D p/\aj P H 30 p=D w/\aZ bu H ok a w:=by
 obtain⟨p,cs,ae,ah,w,rfl,ak⟩:=aZ.val (K:=cQ bu) f_ IK h b c;exact⟨p,w,ae,ah,ak⟩
def c3{k:Nat}(h:k<=1000000000):IntKind.i64.wrap ((k:Int)+1)=((k+1:Nat):Int):=by rw[wrap_i64 ai ai];omega
def p4(l:List Int)(a:Int):Int:=if a∈l then(l.idxOf a:Int)else-1
def El{l:List Int}{v:aa}{a:Int}(h:aZ bu H ok l v)(d:l.length<=1000000000){N:Nat}:∀(j k m:Nat),k+j=l.length->j<m->a∉l.take k->W (mH (aC P ax) N m v (J X a) (J X l.length) (J X k) H) λr H'=>r= J X (p4 l a)/\H'=H
 |_,_,0,_,hm,_=>ai
 |0,k,m+1,e,_,aS=>by
  have c:¬(k:Int)<(l.length:Int):=ai;simp-implicitDefEqProofs(disch:=try exact al)only[qx,tM,mH,aq,aG,c,decide_false];refine aK.2 ⟨?_,rfl⟩;rw[List.take_of_length_le ai]at aS;rw[p4,if_neg aS]
 |j+1,k,m+1,e,hm,aS=>by
  have c:(k:Int)<(l.length:Int):=ai;have b:k<l.length:=ai;obtain⟨p,g,i⟩:=h.int (j:=(k:Int)) (a:=l[k]) ai (by simp[b]);simp-implicitDefEqProofs(disch:=try exact al)only[tM,mH,aq,aG,c,decide_true,g,i];by_cases he:a=l[k]
  ·rw[show(a==l[k])=C by simpa using he];simp-implicitDefEqProofs(disch:=try exact al)only[aq];refine aK.2 ⟨?_,rfl⟩;have f:a∈l:=by rw[he];exact List.getElem_mem b
   rw[p4,if_pos f];have:l.idxOf a=k:=by
    have ae:l=l.take k++l.drop k:=(List.take_append_drop k l).symm;rw[ae,List.idxOf_append,if_neg aS,List.drop_eq_getElem_cons b,he,List.idxOf_cons_self];simp;omega
   rw[this]
  ·rw[show(a==l[k])=Z by simpa using he];simp-implicitDefEqProofs(disch:=try exact al)only[aq,aG,c3 (show k<=1000000000 by omega)];refine El h d j (k+1) m ai ai ?_;rw[List.take_succ_eq_append_getElem b,List.mem_append];simp only[List.mem_singleton];exactλaA=>aA.elim aS he
def OD{l:List Int}{v:aa}{a:Int}(h:aZ bu H ok l v)(b:l.length<=1000000000):W (aC P ax 134 [v,J X a] H) λr H'=>r= J X (p4 l a)/\H'=H:=by
 refine bZ (λ_=>TO (l.length+1)) ?_;simp-implicitDefEqProofs(disch:=try exact al)only[qw,bf,h.len cU];exact El h b l.length 0 (l.length+1) ai ai (by simp)
def JB{H:ad}{ok ok':Nat->Prop}(a:Int)(cs:List aa)(h:bu.V H ok a cs):bu.V H ok' a cs:=h
def bG.ints{B:Nat}{H1:ad}{l m:List Int}{v w:aa}(h:bG bu B bH H1 l v)(b:B<=H1.next)(hm:aZ bu H1 ok m w)(az:l.length+m.length<=1000000000):
  ∃a H',cS P H1 [30,30] v w=D (a,H')/\bG bu B bH H' (l++m) a/\dt B H1 H'/\(∀k,k<H1.next->(∀L n c,v= .aJ L 0 n 1 c->k≠L)->H'.get k=H1.get k)/\(a=v\/∃n,a= .aJ H1.next 0 n 1 I):=
 h.app cU b ((hm.zm cU).plain (okE':=λ_=>False) JB) (λ_ _ h=>h.elim) (λ_ _ _ _=>trivial) trivial az
def eW(l:Nat)(n:Int):cv P l 30 1 [(0,J X n)]=D (.aJ l 0 1 1 (D 1),.row Z 1 [[J X n]]):=nI cU l rfl rfl rfl
def bG.wj{B:Nat}{H1:ad}{l:List Int}{v:aa}{a:Int}(h:bG bu B bH H1 l v)(d:B<=H1.next)(az:l.length<=999999999):
  ∃b H',cS P (H1.push (.row Z 1 [[J X a]])) [30,30] v (.aJ H1.next 0 1 1 (D 1))=D (b,H')/\bG bu B bH H' (l++[a]) b/\dt B H1 H'/\H1.next<H'.next/\(∀k,k<H1.next->(∀L n c,v= .aJ L 0 n 1 c->k≠L)->H'.get k=H1.get k):=
 h.vB cU d (ay.refl _) (a:=a) (cs:=[J X a]) rfl (λ_ _=>trivial) az
def Dw{l r:List Int}{v w:aa}{ok':Nat->Prop}(h:aZ bu H ok l v)(ah:aZ bu H ok' r w)(az:l.length=r.length)(e:l.length<=1000000000){N:Nat}:∀(j k m:Nat),k+j=l.length->j<m->l.take k=r.take k->W (nF (aC P ax) N m v w (J X l.length) (J X k) H) λq H'=>q= y (decide (l=r))/\H'=H
 |_,_,0,_,hm,_=>ai
 |0,k,m+1,f,_,aS=>by
  have b:¬(k:Int)<(l.length:Int):=ai;simp-implicitDefEqProofs(disch:=try exact al)only[r0,vb,nF,aq,aG,b,decide_false];refine aK.2 ⟨?_,rfl⟩;rw[List.take_of_length_le ai,List.take_of_length_le ai]at aS;rw[aS];simp
 |j+1,k,m+1,f,hm,aS=>by
  have b:(k:Int)<(l.length:Int):=ai;have c:k<l.length:=ai;have d:k<r.length:=ai;obtain⟨p,g,i⟩:=h.int (j:=(k:Int)) (a:=l[k]) ai (by simp[c]);obtain⟨s,n,o⟩:=ah.int (j:=(k:Int)) (a:=r[k]) ai (by simp[d]);simp-implicitDefEqProofs(disch:=try exact al)only[vb,nF,aq,aG,b,decide_true,g,i,n,o];by_cases he:l[k]=r[k]
  ·rw[show(l[k] != r[k])=Z by simpa using he];simp-implicitDefEqProofs(disch:=try exact al)only[aq,aG,c3 (show k<=1000000000 by omega)];refine Dw h ah az e j (k+1) m ai ai ?_;rw[List.take_succ_eq_append_getElem c,List.take_succ_eq_append_getElem d,aS,he]
  ·rw[show(l[k] != r[k])=C by simpa using he];simp-implicitDefEqProofs(disch:=try exact al)only[aq];refine aK.2 ⟨?_,rfl⟩;rw[decide_eq_false];rintro rfl;exact he rfl
def LV{l r:List Int}{v w:aa}{ok':Nat->Prop}(h:aZ bu H ok l v)(ah:aZ bu H ok' r w)(a:l.length<=1000000000):W (aC P ax 81 [v,w] H) λq H'=>q= y (decide (l=r))/\H'=H:=by
 refine bZ (λ_=>U7 (l.length+1)) ?_;by_cases az:l.length=r.length
 ·have e:(((l.length:Nat):Int) != ((r.length:Nat):Int))=false:=bne_eq_false_iff_eq.2 ai;simp-implicitDefEqProofs(disch:=try exact al)only[pa,bf,h.len cU,ah.len cU,aq,aG,e];exact Dw h ah az a l.length 0 (l.length+1) ai ai (by simp)
 ·have e:(((l.length:Nat):Int) != ((r.length:Nat):Int))=true:=bne_iff_ne.2 ai;simp-implicitDefEqProofs(disch:=try exact al)only[pa,bf,h.len cU,ah.len cU,aq,aG,e];refine aK.2 ⟨?_,rfl⟩;rw[decide_eq_false];rintro rfl;exact az rfl
end
end Go.Proofs.YtmhhnnklfcbgfaaGreat
namespace Go.bp
open Go.bo
section
open Go.bo
open Go.bo
open Go.bo
structure cz where
  b:Int
  r:Int
  d:Int
 deriving DecidableEq
structure In where
 op:Int
 a:Int
 b:Int
 c:Int
 n:Int
 args:List Int
structure b3 where
 params:Int
 vars:List cz
 has:Bool
 res:cz
 ins:List In
structure px where
 f:Int
 ty:cz
structure bQ where
 b1:List (List cz)
 globals:List cz
 o:List b3
 sites:List px
 main:Int
def dE{α:Type}(l:List α)(i:Int):Option α:=if 0<=i then l[i.toNat]? else I
def bt:cz:=⟨0,0,0⟩
def cN:cz:=⟨1,0,0⟩
def dI:cz:=⟨2,0,0⟩
def h8(t:cz):Bool:=t.b==3||decide (0<t.d)
def less(t:cz):cz:=⟨t.b,t.r,t.d-1⟩
def a1(c:b3)(v:Int):cz:=(dE c.vars v).getD bt
def dB(a:Nat)(t:cz):Bool:=decide (0<=t.d/\t.d<=3)&&(bif t.b==1||t.b==2 then t.r==0 else bif t.b==3 then decide (0<=t.r/\t.r<a)else Z)
def j0(x:bQ)(t:cz):Option (List cz):=if t.b=3/\t.d=0 then dE x.b1 t.r else I
def dW(x:bQ)(t:cz)(k:Int):cz:=((j0 x t).bind λfs=>dE fs k).getD bt
def gO(x:bQ)(f:Nat)(s:Int)(t:cz):Bool:=match dE x.sites s with
 |some z=>z.f==(f:Int)&&decide (z.ty=t)
 |none=>Z
def named(i:In):Bool:=
 let z (b c n g:Bool):Bool:=(b||i.b==0)&&((c||i.c==0)&&((n||i.n==0)&&(g||i.args.length==0)))
 match i.op with
 |1=>z Z Z C Z
 |11=>z Z Z C Z
 |19=>z Z Z C Z
 |20=>z Z Z C Z
 |3=>z C Z Z Z
 |10=>z C Z Z Z
 |4=>z C C C Z
 |5=>z C Z C Z
 |12=>z C Z C Z
 |6=>z C C Z Z
 |7=>z C C Z Z
 |8=>z C C Z Z
 |9=>z C C Z Z
 |13=>z Z C Z C
 |17=>z Z C C Z
 |16=>i.a==0&&(i.b==0&&(i.c==0&&i.args.length==0))
 |_=>z Z Z Z Z
def fH(n:Int)(a b d:cz):Bool:=
 if 14<=n/\n<=18 then decide (a=cN/\b=cN/\d=cN)
 else if n=19\/n=20 then decide (a=dI/\b=cN/\d=cN)
 else if n=21\/n=22 then decide (a=dI/\b≠bt/\b=d)
 else if n=23\/n=24 then decide (a=dI/\b=dI/\d=dI)
 else Z
def im(c g:b3):List Int->Nat->Bool
 |[],_=>C
 |v::a,k=>decide (a1 c v≠bt)&&(decide (g.vars[k]? =D (a1 c v))&&im c g a (k+1))
def jE(x:bQ)(c:b3)(i:In):Bool:=match dE x.o i.c with
 |none=>Z
 |some g=>decide (0<=g.params/\g.params<=g.vars.length/\(i.args.length:Int)=g.params)&&(im c g i.args 0&&
  (i.a== -1||(g.has&&decide (a1 c i.a≠bt/\a1 c i.a=g.res))))
def within(n:Int)(m:Nat):Bool:=decide (0<=n/\n<m)
def dw(x:bQ)(f:Nat)(c:b3)(i:In):Bool:=
 let a:=a1 c i.a
 let b:=a1 c i.b
 let d:=a1 c i.c
 named i&&match i.op with
 |1=>decide (a=cN)||(decide (a=dI)&&(i.n==0||i.n==1))
 |2=>decide (a≠bt)&&h8 a
 |3=>decide (a≠bt/\a=b)
 |4=>fH i.n a b d
 |5=>(i.n==12&&decide (a=cN/\b=cN))||(i.n==13&&decide (a=dI/\b=dI))
 |6=>decide (a≠bt/\a=dW x b i.c)
 |7=>decide (b≠bt/\b=dW x a i.c)
 |8=>decide (a≠bt/\0<b.d/\d=cN/\a=less b)
 |9=>decide (d≠bt/\0<a.d/\b=cN/\d=less a)
 |10=>decide (a=cN/\0<b.d)
 |11=>decide (a≠bt/\a.b=3/\a.d=0)&&gO x f i.n a
 |12=>decide (0<a.d/\b=cN)&&gO x f i.n a
 |13=>jE x c i
 |14=>decide (a=cN)
 |15=>decide (a=cN)
 |16=>within i.n c.ins.length
 |17=>decide (a=dI)&&(within i.n c.ins.length&&within i.c c.ins.length)
 |18=>bif c.has then decide (a≠bt/\a=c.res)else i.a== -1
 |19=>decide (a≠bt)&&decide (dE x.globals i.n=D a)
 |20=>decide (a≠bt)&&decide (dE x.globals i.n=D a)
 |_=>Z
def hK(op:Int):Bool:=op==16||op==17||op==18
def h5(l:List In):Int:=match l.getLast? with
 |some i=>i.op
 |none=>0
def codeOk(x:bQ)(f:Nat)(c:b3):Bool:=decide (0<=c.params/\c.params<=6/\c.params<=c.vars.length/\c.vars.length<=4000/\1<=c.ins.length)&&(c.vars.all (dB x.b1.length)&& ((bif c.has then dB x.b1.length c.res else decide (c.res=bt))&&(c.ins.all (dw x f c)&&hK (h5 c.ins))))
def hl(x:bQ):List b3->Nat->Bool
 |[],_=>C
 |c::cs,f=>codeOk x f c&&hl x cs (f+1)
def eR:List b3->Nat
 |[]=>0
 |c::cs=>c.ins.length+eR cs
def gV(x:bQ)(s:px):Bool:=decide (0<=s.f/\s.f<x.o.length)&&(dB x.b1.length s.ty&&h8 s.ty)
def gS(x:bQ):Bool:=match dE x.o x.main with
 |some c=>c.params==0&& !c.has
 |none=>Z
def right(x:bQ):Bool:=decide (x.b1.length<=12/\x.globals.length<=8/\1<=x.o.length/\x.o.length<=16/\x.sites.length<=60)&&(gS x&&(x.globals.all (dB x.b1.length)&& (x.b1.all (λl=>decide (l.length<=8)&&l.all (dB x.b1.length))&&(x.sites.all (gV x)&&(decide (eR x.o<=2500)&&hl x x.o 0)))))
end
section
open Go.bo
open Go.bo
open Go.bo
open Classical
inductive bz where
 |base (a b:Nat)
 |copy (a b:Nat)
 |load (a b f:Nat)
 |store (a b f:Nat)
 |same (a b:Nat)
inductive df(n:Nat)(l:List bz):Nat->Nat->Prop where
 |base {a b} (h:bz.base a b∈l):df n l a b
 |copy {a b s} (h:bz.copy a b∈l) (ae:df n l b s):df n l a s
 |load {a b f t s} (h:bz.load a b f∈l) (ae:df n l b t) (ah:df n l (n+t*8+f) s):df n l a s
 |store {a b f t s} (h:bz.store a b f∈l) (ae:df n l a t) (ah:df n l b s):df n l (n+t*8+f) s
 |same {a b f s} (h:bz.same a b∈l) (aN:f<8) (ae:df n l (n+a*8+f) s):df n l (n+b*8+f) s
 |kM {a b f s} (h:bz.same a b∈l) (aN:f<8) (ae:df n l (n+b*8+f) s):df n l (n+a*8+f) s
def bz.wf(n m:Nat):bz->Prop
 | .base a b=>a<n/\b<m
 | .copy a b=>a<n/\b<n
 | .load a b f=>a<n/\b<n/\f<8
 | .store a b f=>a<n/\b<n/\f<8
 | .same a b=>a<m/\b<m
def e0(n m:Nat)(l:List bz):Prop:=∀c∈l,c.wf n m
structure Fit(n:Nat)(l:List bz)(R:Nat->Nat->Prop):Prop where
 base:∀{a b},bz.base a b∈l->R a b
 copy:∀{a b s},bz.copy a b∈l->R b s->R a s
 load:∀{a b f t s},bz.load a b f∈l->R b t->R (n+t*8+f) s->R a s
 store:∀{a b f t s},bz.store a b f∈l->R a t->R b s->R (n+t*8+f) s
 same:∀{a b f s},bz.same a b∈l->f<8->R (n+a*8+f) s->R (n+b*8+f) s
 kM:∀{a b f s},bz.same a b∈l->f<8->R (n+b*8+f) s->R (n+a*8+f) s
def df.least{n:Nat}{l:List bz}{R:Nat->Nat->Prop}(h:Fit n l R):∀{v s},df n l v s->R v s:=by
 intro v s p
 induction p with
 |base ae=>exact h.base ae
 |copy ae _ i=>exact h.copy ae i
 |load ae _ _ i j=>exact h.load ae i j
 |store ae _ _ i j=>exact h.store ae i j
 |same ae aN _ i=>exact h.same ae aN i
 |kM ae aN _ i=>exact h.kM ae aN i
def df.site{n m:Nat}{l:List bz}(hw:e0 n m l){v s:Nat}(h:df n l v s):s<m:=by
 induction h with
 |base h=>exact(hw _ h).2
 |copy _ _ i=>exact i
 |load _ _ _ _ j=>exact j
 |store _ _ _ _ j=>exact j
 |same _ _ _ i=>exact i
 |kM _ _ _ i=>exact i
def df.mono{n:Nat}{l b:List bz}(h:∀c∈l,c∈b){v s:Nat}(p:df n l v s):df n b v s:=
 p.least ⟨λa=> .base (h _ a),λa=> .copy (h _ a),λa=> .load (h _ a),λa=> .store (h _ a),λa=> .same (h _ a),λa=> .kM (h _ a)⟩
noncomputable def c_(m:Nat)(p:Nat->Prop):List Nat:=(List.range m).filter λs=>decide (p s)
def gI{m:Nat}{p:Nat->Prop}{s:Nat}:s∈c_ m p↔s<m/\p s:=by simp[c_]
def AH{m:Nat}{p q:Nat->Prop}(h:∀s,s<m->(p s↔q s)):c_ m p=c_ m q:=by
 unfold c_;refine List.filter_congr λs a=> ?_
 rw[List.mem_range]at a;exact decide_eq_decide.2 (h s a)
def Ge(m:Nat)(p:Nat->Prop):(c_ m p).Pairwise (· < ·):=List.Pairwise.filter _ List.pairwise_lt_range
def GF:∀{l r:List Nat},l.Pairwise (· < ·)->r.Pairwise (· < ·)->(∀a,a∈l↔a∈r)->l=r
 |[],[],_,_,_=>rfl
 |[],b::r,_,_,h=>by have:=(h b).2 (by simp);simp at this
 |a::l,[],_,_,h=>by have:=(h a).1 (by simp);simp at this
 |a::l,b::r,az,d,h=>by
  rw[List.pairwise_cons]at az d;have e:a=b:=by
   have ae:=(h a).1 (by simp);have ah:=(h b).2 (by simp);rw[List.mem_cons]at ae ah;rcases ae with ae|ae
   ·exact ae
   ·rcases ah with ah|ah
    ·exact ah.symm
    ·have:=d.1 a ae;have:=az.1 b ah;omega
  subst e;rw[GF az.2 d.2 λc=> ?_];have:=h c;simp only[List.mem_cons]at this;constructor
  ·intro aA;rcases this.1 (.inr aA)with rfl|f
   ·exact absurd (az.1 c aA) (Nat.lt_irrefl _)
   ·exact f
  ·intro aA;rcases this.2 (.inr aA)with rfl|f
   ·exact absurd (d.1 c aA) (Nat.lt_irrefl _)
   ·exact f
structure dn where
 nodes:List (List Nat)
 fields:List (List (List Nat))
noncomputable def gl(n m:Nat)(R:Nat->Nat->Prop):dn:=
 ⟨(List.range n).map λv=>c_ m (R v),(List.range m).map λt=>(List.range 8).map λf=>c_ m (R (n+t*8+f))⟩
noncomputable def da(n m:Nat)(l:List bz):dn:=gl n m (df n l)
def dn.ea(p:dn)(s k:Nat):List Nat:=((p.fields[s]?).bind λfs=>fs[k]?).getD []
inductive cH(p:dn):Nat->Nat->Prop where
 |refl (a):cH p a a
 |symm {a b} (h:cH p a b):cH p b a
 |trans {a b c} (h:cH p a b) (k:cH p b c):cH p a c
 |node {L a b} (h:L∈p.nodes) (d:a∈L) (e:b∈L):cH p a b
 |field {s t k a b} (h:cH p s t) (d:a∈p.ea s k) (e:b∈p.ea t k):cH p a b
structure vu(p:dn)(R:Nat->Nat->Prop):Prop where
 refl:∀a,R a a
 symm:∀{a b},R a b->R b a
 trans:∀{a b c},R a b->R b c->R a c
 node:∀{L a b},L∈p.nodes->a∈L->b∈L->R a b
 field:∀{s t k a b},R s t->a∈p.ea s k->b∈p.ea t k->R a b
def cH.least{p:dn}{R:Nat->Nat->Prop}(h:vu p R):∀{a b},cH p a b->R a b:=by
 intro a b t
 induction t with
 |refl a=>exact h.refl a
 |symm _ i=>exact h.symm i
 |trans _ _ i j=>exact h.trans i j
 |node ae c d=>exact h.node ae c d
 |field _ c d i=>exact h.field i c d
def cH.g0(p:dn):vu p (cH p):=⟨.refl,.symm,.trans,.node,.field⟩
structure fl(R:Nat->Nat->Prop):Prop where
 refl:∀a,R a a
 symm:∀{a b},R a b->R b a
 trans:∀{a b c},R a b->R b c->R a c
def vu.eqv{p:dn}{R:Nat->Nat->Prop}(h:vu p R):fl R:=⟨h.refl,h.symm,h.trans⟩
noncomputable def dr(R:Nat->Nat->Prop)(s:Nat):Nat:=((List.range (s+1)).find? λt=>decide (R s t)).getD s
def g3{R:Nat->Nat->Prop}(h:fl R)(s:Nat):R s (dr R s)/\dr R s<=s/\∀t,R s t->dr R s<=t:=by
 unfold dr;cases aN:(List.range (s+1)).find? λt=>decide (R s t)with
 |none=>
  rw[List.find?_eq_none]at aN;exact absurd (decide_eq_true (h.refl s)) (aN s (by simp))
 |some t=>
  rw[List.find?_range_eq_some]at aN;obtain⟨ae,ah,ak⟩:=aN;simp only[decide_eq_true_eq]at ae;refine⟨ae,by simp at ah;show t<=s;omega,λu hu=> ?_⟩;show t<=u;rcases Nat.lt_or_ge u t with b|a
  ·have:=ak u b;simp[hu]at this
  ·exact a
def oh{R:Nat->Nat->Prop}(h:fl R){a b:Nat}:dr R a=dr R b↔R a b:=by
 have c:=g3 h a;have d:=g3 h b;constructor
 ·intro e;exact h.trans c.1 (h.symm (e▸d.1))
 ·intro f;exact Nat.le_antisymm (c.2.2 _ (h.trans f d.1)) (d.2.2 _ (h.trans (h.symm f) c.1))
def E3{R:Nat->Nat->Prop}(h:fl R)(a:Nat):dr R (dr R a)=dr R a:=(oh h).2 (h.symm (g3 h a).1)
end
section
open Go.bo
open Go.bo
open Go.bo
open Classical
noncomputable def iC(R:Nat->Nat->Prop)(m:Nat):List Nat:=c_ m λs=>dr R s=s
noncomputable def et(R:Nat->Nat->Prop)(s:Nat):Nat:=(iC R (dr R s)).length
structure eg where
 count:Nat
 of:List Nat
 nodes:List Int
 fields:List (List Int)
noncomputable def k2(R:Nat->Nat->Prop):List Nat->Int
 |[]=> -1
 |a::_=>et R a
noncomputable def kj(p:dn)(R:Nat->Nat->Prop)(m r k:Nat):List Nat:=(c_ m (R r)).flatMap λt=>p.ea t k
noncomputable def jW(p:dn)(R:Nat->Nat->Prop)(m:Nat):eg:=
 ⟨(iC R m).length,(List.range m).map (et R),p.nodes.map (k2 R),(iC R m).map λr=>(List.range 8).map λk=>k2 R (kj p R m r k)⟩
noncomputable def merge(p:dn)(m:Nat):eg:=jW p (cH p) m
def SZ{m eU:Nat}{p:Nat->Prop}(h:m<=eU):c_ m p <+: c_ eU p:=by
 unfold c_;obtain⟨k,rfl⟩:∃k,eU=m+k:=⟨eU-m,by omega⟩;rw[List.range_add,List.filter_append];exact List.prefix_append _ _
def mc{m:Nat}{p:Nat->Prop}:c_ (m+1) p=c_ m p++(if p m then[m]else[]):=by
 unfold c_;rw[List.range_succ,List.filter_append];by_cases h:p m<;>simp[h]
def Gb{m s:Nat}{p:Nat->Prop}(b:s<m)(h:p s):(c_ m p)[(c_ s p).length]? =D s:=by
 obtain⟨t,a⟩:=SZ (p:=p) (show s+1<=m by omega);rw[<-a,mc,if_pos h];simp
def vN{R:Nat->Nat->Prop}(he:fl R){m s:Nat}(a:s<m):(iC R m)[et R s]? =D (dr R s):=
 Gb (by have:=(g3 he s).2.1;omega) (E3 he s)
def Da{R:Nat->Nat->Prop}(he:fl R){m s:Nat}(a:s<m):et R s<(iC R m).length:=(List.getElem?_eq_some_iff.1 (vN he a)).1
def sA{R:Nat->Nat->Prop}(he:fl R){s t:Nat}:et R s=et R t↔R s t:=by
 rw[<-oh he];constructor
 ·intro h;have ae:=vN he (m:=s+t+1) (s:=s) (by omega);have ah:=vN he (m:=s+t+1) (s:=t) (by omega);rw[h]at ae;exact Option.some.inj (ae.symm.trans ah)
 ·intro h;unfold et;rw[h]
def Gy(R:Nat->Nat->Prop)(m:Nat):(iC R m).length<=m:=by
 unfold iC c_;exact Nat.le_trans (List.length_filter_le _ _) (by simp)
noncomputable def gn(R:Nat->Nat->Prop)(m:Nat):List bz:=(List.range m).map λs=>bz.same s (dr R s)
def k9{R:Nat->Nat->Prop}{m:Nat}{c:bz}:c∈gn R m↔∃s,s<m/\c= .same s (dr R s):=by
 simp only[gn,List.mem_map,List.mem_range];constructor
 ·rintro⟨s,h,rfl⟩;exact⟨s,h,rfl⟩
 ·rintro⟨s,h,rfl⟩;exact⟨s,h,rfl⟩
def Jj{R:Nat->Nat->Prop}(he:fl R)(n m:Nat):e0 n m (gn R m):=by
 intro c aA;obtain⟨s,h,rfl⟩:=k9.1 aA;exact⟨h,by have:=(g3 he s).2.1;omega⟩
def Jk{n m:Nat}{l a:List bz}(h:e0 n m l)(ca:e0 n m a):e0 n m (l++a):=λc aA=>(List.mem_append.1 aA).elim (h c) (ca c)
def df.Kg{n m:Nat}{l:List bz}{R S:Nat->Nat->Prop}(j:fl R)(k:fl S)(h:∀a b,R a b->S a b){v s:Nat}(p:df n (l++gn R m) v s):df n (l++gn S m) v s:=by
 have key:∀{a b:Nat},bz.same a b∈gn R m->a<m/\b<m/\dr S a=dr S b:=by
  intro a b aA;obtain⟨s,o,e⟩:=k9.1 aA;injection e with g i
  subst g;subst i;have:=g3 j a;exact⟨o,by omega,(oh k).2 (h _ _ this.1)⟩
 have mk:∀{a},a<m->bz.same a (dr S a)∈l++gn S m:=λc=>List.mem_append.2 (.inr (k9.2 ⟨_,c,rfl⟩))
 refine p.least ⟨?_,?_,?_,?_,?_,?_⟩
 ·intro a b aA;rcases List.mem_append.1 aA with aA|aA
  ·exact .base (List.mem_append.2 (.inl aA))
  ·obtain⟨_,_,e⟩:=k9.1 aA;cases e
 ·intro a b s aA;rcases List.mem_append.1 aA with aA|aA
  ·exact .copy (List.mem_append.2 (.inl aA))
  ·obtain⟨_,_,e⟩:=k9.1 aA;cases e
 ·intro a b f t s aA;rcases List.mem_append.1 aA with aA|aA
  ·exact .load (List.mem_append.2 (.inl aA))
  ·obtain⟨_,_,e⟩:=k9.1 aA;cases e
 ·intro a b f t s aA;rcases List.mem_append.1 aA with aA|aA
  ·exact .store (List.mem_append.2 (.inl aA))
  ·obtain⟨_,_,e⟩:=k9.1 aA;cases e
 ·intro a b f s aA aN ae;rcases List.mem_append.1 aA with aA|aA
  ·exact .same (List.mem_append.2 (.inl aA)) aN ae
  ·obtain⟨c,d,e⟩:=key aA;have ah:=df.same (mk c) aN ae;rw[e]at ah;exact .kM (mk d) aN ah
 ·intro a b f s aA aN ae;rcases List.mem_append.1 aA with aA|aA
  ·exact .kM (List.mem_append.2 (.inl aA)) aN ae
  ·obtain⟨c,d,e⟩:=key aA;have ah:=df.same (mk d) aN ae;rw[<-e]at ah;exact .kM (mk c) aN ah
def vW{n m:Nat}{R:Nat->Nat->Prop}{t k a:Nat}:a∈(gl n m R).ea t k↔t<m/\k<8/\a<m/\R (n+t*8+k) a:=by
 unfold dn.ea gl;simp only[List.getElem?_map];by_cases c:t<m
 ·rw[List.getElem?_range c];simp only[Option.map_some,Option.bind_some,List.getElem?_map];by_cases b:k<8
  ·rw[List.getElem?_range b];simp[gI,c,b]
  ·rw[List.getElem?_eq_none (by simpa using b)];simp[b]
 ·rw[List.getElem?_eq_none (by simpa using c)];simp[c]
def cH.Fs{n m:Nat}{R S:Nat->Nat->Prop}(h:∀v s,R v s->S v s){a b:Nat}(t:cH (gl n m R) a b):cH (gl n m S) a b:=by
 refine t.least ⟨.refl,.symm,.trans,?_,?_⟩
 ·intro L a b e c d;simp only[gl,List.mem_map,List.mem_range]at e;obtain⟨v,g,rfl⟩:=e;refine .node (L:=c_ m (S v)) ?_ ?_ ?_
  ·simp only[gl,List.mem_map,List.mem_range];exact⟨v,g,rfl⟩
  ·rw[gI]at c ⊢;exact⟨c.1,h _ _ c.2⟩
  ·rw[gI]at d ⊢;exact⟨d.1,h _ _ d.2⟩
 ·intro s t k a b f c d;refine .field (s:=s) (t:=t) (k:=k) f ?_ ?_
  ·rw[vW]at c ⊢;exact⟨c.1,c.2.1,c.2.2.1,h _ _ c.2.2.2⟩
  ·rw[vW]at d ⊢;exact⟨d.1,d.2.1,d.2.2.1,h _ _ d.2.2.2⟩
noncomputable def Qu(n m:Nat)(l:List bz)(R:Nat->Nat->Prop):Nat->Nat->Prop:=cH (da n m (l++gn R m))
noncomputable def gT(n m:Nat)(l:List bz):Nat->Nat->Nat->Prop
 |0=>cH (da n m l)
 |k+1=>Qu n m l (gT n m l k)
def ox(n m:Nat)(l:List bz):∀k,fl (gT n m l k)
 |0=>(cH.g0 _).eqv
 |_+1=>(cH.g0 _).eqv
def GG(n m:Nat)(l:List bz):∀k a b,gT n m l k a b->gT n m l (k+1) a b
 |0,a,b,h=>cH.Fs (λv s p=>p.mono λc aA=>List.mem_append.2 (.inl aA)) h
 |k+1,a,b,h=>cH.Fs (λv s p=>p.Kg (ox n m l k) (ox n m l (k+1)) (GG n m l k)) h
noncomputable def dR(n m:Nat)(l:List bz):Nat->eg
 |0=>merge (da n m l) m
 |k+1=>merge (da n m (l++gn (gT n m l k) m)) m
def pO(n m:Nat)(l:List bz)(k:Nat):(dR n m l k).of=(List.range m).map (et (gT n m l k)):=by cases k<;>rfl
def zf(n m:Nat)(l:List bz)(k:Nat):(dR n m l k).count=(iC (gT n m l k) m).length:=by cases k<;>rfl
def Th{R S:Nat->Nat->Prop}(c:fl R)(d:fl S)(h:∀a b,R a b->S a b){s:Nat}(e:dr S s=s):dr R s=s:=by
 have ae:=g3 c s;have ah:=(g3 d s).2.2 _ (h _ _ ae.1);omega
def SY{m:Nat}{p q:Nat->Prop}(h:∀s,p s->q s):(c_ m p).length<=(c_ m q).length:=by
 induction m with
 |zero=>simp[c_]
 |succ m b=>
  rw[mc,mc,List.length_append,List.length_append];by_cases a:p m
  ·rw[if_pos a,if_pos (h m a)];simp only[List.length_cons,List.length_nil];omega
  ·rw[if_neg a];simp only[List.length_nil];omega
def Gd{m:Nat}{p q:Nat->Prop}(h:∀s,p s->q s)(e:(c_ m q).length<=(c_ m p).length):∀s,s<m->q s->p s:=by
 induction m with
 |zero=>intro s c;omega
 |succ m d=>
  rw[mc,mc,List.length_append,List.length_append]at e;have hle:=SY (m:=m) h;intro s c a8;by_cases a:p m
  ·rw[if_pos a,if_pos (h m a)]at e;simp only[List.length_cons,List.length_nil]at e;rcases Nat.lt_or_eq_of_le (Nat.le_of_lt_succ c)with ae|rfl
   ·exact d (by omega) s ae a8
   ·exact a
  ·rw[if_neg a]at e;by_cases b:q m
   ·rw[if_pos b]at e;simp only[List.length_cons,List.length_nil]at e;omega
   ·rw[if_neg b]at e;simp only[List.length_nil]at e;rcases Nat.lt_or_eq_of_le (Nat.le_of_lt_succ c)with ae|rfl
    ·exact d (by omega) s ae a8
    ·exact absurd a8 b
def Lz{R S:Nat->Nat->Prop}{m:Nat}(h:∀a b,a<m->b<m->(R a b↔S a b))(d:fl R)(e:fl S):∀s,s<m->dr R s=dr S s:=by
 intro s c;have ae:=g3 d s;have ah:=g3 e s;exact Nat.le_antisymm (ae.2.2 _ ((h _ _ c (by omega)).2 ah.1)) (ah.2.2 _ ((h _ _ c (by omega)).1 ae.1))
def ZA{R S:Nat->Nat->Prop}{m:Nat}(c:fl R)(d:fl S)(h:∀a b,R a b->S a b)(aA:(iC R m).length<=(iC S m).length):∀s,s<m->et S s=et R s:=by
 have f:∀s,s<m->dr R s=s->dr S s=s:=Gd (λs=>Th c d h) aA;have az:∀s,s<m->dr S s=dr R s:=by
  intro s e;have ae:=g3 c s;have ah:dr S (dr R s)=dr R s:=f _ (by omega) (E3 c s);rw[<-ah];exact(oh d).2 (h _ _ ae.1)
 intro s e;have ae:=g3 c s;unfold et iC;rw[az s e]
 congr 1
 refine AH λt g=> ?_
 rw[az t (by omega)]
def QG(n m:Nat)(l:List bz)(k:Nat)(h:(dR n m l k).count<=(dR n m l (k+1)).count):(dR n m l (k+1)).of=(dR n m l k).of:=by
 rw[zf,zf]at h;rw[pO,pO];refine List.map_congr_left λs a=> ?_
 rw[List.mem_range]at a;exact ZA (ox n m l k) (ox n m l (k+1)) (GG n m l k) h s a
def LN(n m:Nat)(l:List bz)(k:Nat)(h:(dR n m l (k+1)).of≠(dR n m l k).of):(dR n m l (k+1)).count<(dR n m l k).count:=by
 rcases Nat.lt_or_ge (dR n m l (k+1)).count (dR n m l k).count with ae|ae
 ·exact ae
 ·exact absurd (QG n m l k ae) h
noncomputable def ze(n m:Nat)(l:List bz):eg:=
 let k:=((List.range (m+2)).find? λk=>decide ((dR n m l (k+1)).of=(dR n m l k).of)).getD 0
 dR n m l (k+1)
def Bw(n m:Nat)(l:List bz):∃k,k<m+2/\(dR n m l (k+1)).of=(dR n m l k).of/\(∀j,j<k->(dR n m l (j+1)).of≠(dR n m l j).of)/\ze n m l=dR n m l (k+1):=by
 have hex:∃k,k<m+2/\(dR n m l (k+1)).of=(dR n m l k).of:=by
  apply Classical.byContradiction;intro aS;have b:∀k,k<=m+1->(dR n m l k).count+k<=(dR n m l 0).count:=by
   intro k
   induction k with
   |zero=>intro _;omega
   |succ k d=>
    intro a;have:=LN n m l k (λe=>aS ⟨k,by omega,e⟩);have:=d (by omega);omega
  have ae:=b (m+1) (b4 _);have ah:=Gy (gT n m l 0) m;rw[<-zf]at ah;omega
 unfold ze;cases aN:(List.range (m+2)).find? λk=>decide ((dR n m l (k+1)).of=(dR n m l k).of)with
 |none=>
  rw[List.find?_eq_none]at aN;obtain⟨k,a,e⟩:=hex;exact absurd (decide_eq_true e) (aN k (by simpa using a))
 |some k=>
  rw[List.find?_range_eq_some]at aN;obtain⟨ae,ah,ak⟩:=aN;refine⟨k,by simpa using ah,by simpa using ae,λj c e=> ?_,rfl⟩;have:=ak j c;simp[e]at this
end
section
open Go.bo
open Go.bo
open Go.bo
open Classical
def bE(cs:List b3):Nat->Nat
 |0=>0
 |f+1=>bE cs f+((cs[f]?).map λc=>c.vars.length).getD 0
def ey(cs:List b3):Nat:=bE cs cs.length
def cL(x:bQ):Nat:=ey x.o+x.o.length+x.globals.length
def fS(x:bQ)(f:Nat):Nat:=ey x.o+f
def gr(x:bQ)(g:Nat):Nat:=ey x.o+x.o.length+g
def c8(c:b3)(v:Int):Bool:=h8 (a1 c v)
def fW(c:b3)(at_ to:Nat):List Int->Nat->List bz
 |[],_=>[]
 |v::a,k=>(bif c8 c v then[bz.copy (to+k) (at_+v.toNat)]else[])++fW c at_ to a (k+1)
def cK(x:bQ)(f:Nat)(c:b3)(i:In):List bz:=
 let at_:=bE x.o f
 let a:=at_+i.a.toNat
 let b:=at_+i.b.toNat
 match i.op with
 |3=>bif c8 c i.a then[.copy a b]else[]
 |6=>bif c8 c i.a then[.load a b i.c.toNat]else[]
 |8=>bif c8 c i.a then[.load a b 0]else[]
 |7=>bif c8 c i.b then[.store a b i.c.toNat]else[]
 |9=>bif c8 c i.c then[.store a (at_+i.c.toNat) 0]else[]
 |11=>[.base a i.n.toNat]
 |12=>[.base a i.n.toNat]
 |13=>fW c at_ (bE x.o i.c.toNat) i.args 0++(bif decide (0<=i.a)&&c8 c i.a then[.copy a (fS x i.c.toNat)]else[])
 |18=>bif decide (0<=i.a)&&c8 c i.a then[.copy (fS x f) a]else[]
 |19=>bif c8 c i.a then[.copy a (gr x i.n.toNat)]else[]
 |20=>bif c8 c i.a then[.copy (gr x i.n.toNat) a]else[]
 |_=>[]
def sB(x:bQ)(f:Nat)(c:b3):List bz:=c.ins.flatMap (cK x f c)
def h2(x:bQ):List b3->Nat->List bz
 |[],_=>[]
 |c::cs,f=>sB x f c++h2 x cs (f+1)
def cons(x:bQ):List bz:=h2 x x.o 0
noncomputable def hk(x:bQ):eg:=ze (cL x) x.sites.length (cons x)
def eg.node(k:eg)(v:Nat):Int:=(k.nodes[v]?).getD (-1)
def eg.site(k:eg)(s:Int):Int:=match k.of[s.toNat]? with
 |some c=>(c:Int)
 |none=> -1
end
section
open Go.bo
open Go.bo
open Go.bo
def iR{α:Type}{l:List α}{i:Int}{a:α}(h:dE l i=D a):0<=i/\i.toNat<l.length/\l[i.toNat]? =D a:=by
 unfold dE at h;split at h
 ·rename_i b;exact⟨b,(List.getElem?_eq_some_iff.1 h).1,h⟩
 ·cases h
def Ax{c:b3}{v:Int}(h:a1 c v≠bt):0<=v/\v.toNat<c.vars.length/\c.vars[v.toNat]? =D (a1 c v):=by
 unfold a1 at h ⊢;cases aA:dE c.vars v with
 |none=>rw[aA]at h;exact absurd rfl h
 |some t=>obtain⟨ae,ah,ak⟩:=iR aA;exact⟨ae,ah,by rw[ak];rfl⟩
def xb{t:cz}(h:h8 t=C):t≠bt:=by
 rintro rfl;revert h;decide
def aaH:cN≠bt:=by decide
def aaF:dI≠bt:=by decide
def Dh{x:bQ}:∀{cs:List b3} {f k:Nat} {c:b3},hl x cs f=C->cs[k]? =D c->codeOk x (f+k) c=C
 |[],_,_,_,_,h=>by simp at h
 |d::cs,f,0,c,h,a=>by
  simp only[hl,Bool.and_eq_true]at h;simp only[List.getElem?_cons_zero,bn]at a;subst a;exact h.1
 |d::cs,f,k+1,c,h,a=>by
  simp only[hl,Bool.and_eq_true]at h;have:=Dh h.2 (k:=k) (by simpa using a);rwa[show f+1+k=f+(k+1) by omega]at this
structure dL(x:bQ):Prop where
 b1:x.b1.length<=12
 globals:x.globals.length<=8
 o:1<=x.o.length/\x.o.length<=16
 sites:x.sites.length<=60
 code:∀{f:Nat} {c:b3},x.o[f]? =some c->codeOk x f c=true
 site:∀{s:px},s∈x.sites->gV x s=true
 D9:∀{t:cz},t∈x.globals->dB x.b1.length t=true
 Te:∀{l:List cz},l∈x.b1->l.length<=8
def je{x:bQ}(h:right x=C):dL x:=by
 unfold right at h;simp only[Bool.and_eq_true,decide_eq_true_eq,List.all_eq_true]at h;obtain⟨⟨ae,ah,ak,au,b⟩,j,c,d,e,i,a⟩:=h;exact⟨ae,ah,⟨ak,au⟩,b,λaA=>by have:=Dh a aA;rwa[Nat.zero_add]at this,λf=>e _ f,λg=>c _ g,λaz=>(d _ az).1⟩
structure BU(x:bQ)(f:Nat)(c:b3):Prop where
 params:0<=c.params/\c.params<=6/\c.params<=c.vars.length
 vars:c.vars.length<=4000
 abK:1<=c.ins.length
 ins:∀{i:In},i∈c.ins->dw x f c i=true
 last:hK (h5 c.ins)=true
def iV{x:bQ}{f:Nat}{c:b3}(h:codeOk x f c=C):BU x f c:=by
 unfold codeOk at h;simp only[Bool.and_eq_true,decide_eq_true_eq,List.all_eq_true]at h;obtain⟨⟨ae,ah,ak,au,a⟩,_,_,b,d⟩:=h;exact⟨⟨ae,ah,ak⟩,au,a,λe=>b _ e,d⟩
def pU{x:bQ}(b:dL x){t:cz}{k:Int}(h:dW x t k≠bt):0<=k/\k.toNat<8:=by
 unfold dW j0 at h;split at h
 ·cases aA:dE x.b1 t.r with
  |none=>rw[aA]at h;exact absurd rfl h
  |some l=>
   rw[aA]at h;simp only[Option.bind_some]at h;cases a:dE l k with
   |none=>rw[a]at h;exact absurd rfl h
   |some u=>
    obtain⟨ae,ah,_⟩:=iR a;obtain⟨_,_,ak⟩:=iR aA;have:=b.Te (List.mem_of_getElem? ak);exact⟨ae,by omega⟩
 ·exact absurd rfl h
def pB{x:bQ}{f:Nat}{s:Int}{t:cz}(h:gO x f s t=C):0<=s/\s.toNat<x.sites.length/\∃z,x.sites[s.toNat]? =D z/\z.f=f/\z.ty=t:=by
 unfold gO at h;split at h
 ·rename_i z a;obtain⟨ae,ah,ak⟩:=iR a;simp only[Bool.and_eq_true,beq_iff_eq,decide_eq_true_eq]at h;exact⟨ae,ah,z,ak,h.1,h.2⟩
 ·cases h
def Cs{c g:b3}:∀{l:List Int} {k j:Nat} {v:Int},im c g l k=C->l[j]? =D v->a1 c v≠bt/\g.vars[k+j]? =D (a1 c v)
 |[],_,_,_,_,h=>by simp at h
 |a::l,k,0,v,h,b=>by
  simp only[im,Bool.and_eq_true,decide_eq_true_eq]at h;simp only[List.getElem?_cons_zero,bn]at b;subst b;exact⟨h.1,h.2.1⟩
 |a::l,k,j+1,v,h,b=>by
  simp only[im,Bool.and_eq_true,decide_eq_true_eq]at h;have:=Cs h.2.2 (j:=j) (by simpa using b);rwa[show k+1+j=k+(j+1) by omega]at this
structure BR(x:bQ)(c:b3)(i:In)(g:b3):Prop where
 at_:0<=i.c/\x.o[i.c.toNat]? =some g
 len:(i.args.length:Int)=g.params
 le:g.params<=g.vars.length
 arg:∀{j:Nat} {v:Int},i.args[j]? =some v->a1 c v≠bt/\g.vars[j]? =some (a1 c v)
 res:i.a= -1\/(g.has=true/\a1 c i.a≠bt/\a1 c i.a=g.res)
def Li{x:bQ}{c:b3}{i:In}(h:jE x c i=C):∃g,BR x c i g:=by
 unfold jE at h;split at h
 ·cases h
 ·rename_i g b;obtain⟨ae,ah,ak⟩:=iR b;simp only[Bool.and_eq_true,decide_eq_true_eq,Bool.or_eq_true,beq_iff_eq]at h;obtain⟨⟨e,a,a3⟩,a4,a5⟩:=h;exact⟨g,⟨ae,ak⟩,a3,a,λd=>by have:=Cs a4 d;rwa[Nat.zero_add]at this,a5⟩
def BE{cs:List b3}{f:Nat}{c:b3}(h:cs[f]? =D c):bE cs (f+1)=bE cs f+c.vars.length:=by
 simp[bE,h]
def Jc{cs:List b3}:∀{f g:Nat},f<=g->bE cs f<=bE cs g
 |f,0,h=>by
  have:f=0:=by omega
  subst this;exact b4 _
 |f,g+1,h=>by
  rcases Nat.lt_or_eq_of_le h with ae|rfl
  ·have:=Jc (cs:=cs) (Nat.le_of_lt_succ ae);simp only[bE];omega
  ·exact b4 _
def yB{cs:List b3}{f:Nat}{c:b3}(h:cs[f]? =D c){v:Nat}(a:v<c.vars.length):bE cs f+v<ey cs:=by
 have aN:=(List.getElem?_eq_some_iff.1 h).1;have ae:=BE h;have ah:=Jc (cs:=cs) (show f+1<=cs.length by omega);unfold ey;omega
end
end Go.bp
namespace Go.Proofs.YtmhhnnklfcbgfaaGreat
open Go.bo
section
open Go.bp
def b7(t:cz):List aa:=[J X t.b,J X t.r,J X t.d]
def cX(t:cz):aa:= .agg (b7 t)
def ei:ej cz:=⟨3,λ_ _ t cs=>cs=b7 t,by rintro _ _ _ _ rfl;exact⟨rfl,rfl⟩,λ_ h=>h⟩
def js:ej cz:=⟨4,λ_ _ t cs=>∃s,cs= F s::b7 t,by rintro _ _ _ _ ⟨s,rfl⟩;exact⟨rfl,rfl⟩,λ_ h=>h⟩
def kb:ej (List cz):=⟨2,λH ok l cs=>∃s v,cs=[F s,v]/\aZ js H ok l v,by
 rintro _ _ _ _ ⟨s,v,rfl,h⟩;exact⟨rfl,by have:=h.one;simp[this];simp[aa.one]⟩,by
 rintro _ _ _ _ _ _ p ⟨s,v,rfl,h⟩;exact⟨s,v,rfl,h.keep p⟩⟩
def e7:ej In:=⟨6,λH ok i cs=>∃v,cs=[J X i.op,J X i.a,J X i.b,J X i.c,J X i.n,v]/\aZ bu H ok i.args v,by
 rintro _ _ _ _ ⟨v,rfl,h⟩;exact⟨rfl,by have:=h.one;simp[this];simp[aa.one]⟩,by
 rintro _ _ _ _ _ _ p ⟨v,rfl,h⟩;exact⟨v,rfl,h.keep p⟩⟩
def fr:ej b3:=⟨7,λH ok c cs=>∃v w,cs=[J X c.params,v,y c.has,J X c.res.b,J X c.res.r,J X c.res.d,w]/\aZ ei H ok c.vars v/\aZ e7 H ok c.ins w,by
 rintro _ _ _ _ ⟨v,w,rfl,h,ah⟩;exact⟨rfl,by have ak:=h.one;have au:=ah.one;simp[ak,au];simp[aa.one]⟩,by
 rintro _ _ _ _ _ _ p ⟨v,w,rfl,h,ah⟩;exact⟨v,w,rfl,h.keep p,ah.keep p⟩⟩
def kc:ej px:=⟨4,λ_ _ z cs=>cs= J X z.f::b7 z.ty,by rintro _ _ _ _ rfl;exact⟨rfl,rfl⟩,λ_ h=>h⟩
def en:eC 22 95 2:=⟨ag,ag,⟨40,ag,b_⟩,⟨.agg [F [],.aB],ag,rfl,rfl⟩,b_⟩
def dh:eC 23 46 3:=⟨ag,ag,⟨24,ag,b_⟩,⟨.agg [J X 0,J X 0,J X 0],ag,rfl,rfl⟩,b_⟩
def c0:eC 24 49 7:=⟨ag,ag,⟨88,ag,b_⟩,⟨.agg [J X 0,.aB,y Z,J X 0,J X 0,J X 0,.aB],ag,rfl,rfl⟩,b_⟩
def e4:eC 25 100 4:=⟨ag,ag,⟨32,ag,b_⟩,⟨.agg [J X 0,J X 0,J X 0,J X 0],ag,rfl,rfl⟩,b_⟩
def eb:eC 47 89 6:=⟨ag,ag,⟨64,ag,b_⟩,⟨.agg [J X 0,J X 0,J X 0,J X 0,J X 0,.aB],ag,rfl,rfl⟩,b_⟩
def hs:eC 93 98 4:=⟨ag,ag,⟨40,ag,b_⟩,⟨.agg [F [],J X 0,J X 0,J X 0],ag,rfl,rfl⟩,b_⟩
def si(H:ad)(ok:Nat->Prop)(x:bQ)(cs:List aa):Prop:=∃a b c d,cs=[a,b,c,d,J X x.main]/\aZ kb H ok x.b1 a/\aZ ei H ok x.globals b/\aZ fr H ok x.o c/\aZ kc H ok x.sites d
def c2(H:ad)(ok:Nat->Prop)(x:bQ)(v:aa):Prop:=∃cs,v= .agg cs/\si H ok x cs
def si.keep{H H':ad}{ok ok':Nat->Prop}{x:bQ}{cs:List aa}(p:eB H ok H' ok'):si H ok x cs->si H' ok' x cs:=by
 rintro⟨a,b,c,d,rfl,ae,ah,ak,au⟩;exact⟨a,b,c,d,rfl,ae.keep p,ah.keep p,ak.keep p,au.keep p⟩
def c2.keep{H H':ad}{ok ok':Nat->Prop}{x:bQ}{v:aa}(p:eB H ok H' ok'):c2 H ok x v->c2 H' ok' x v:=λ⟨cs,e,h⟩=>⟨cs,e,h.keep p⟩
def c2.aI{H H':ad}{ok:Nat->Prop}{x:bQ}{v:aa}(h:c2 H ok x v)(p:ay H H'):c2 H' ok x v:=h.keep (.aI p)
def vr(H:ad)(ok:Nat->Prop)(i:In)(v:aa):Prop:=∃cs,v= .agg cs/\e7.V H ok i cs
def BT(H:ad)(ok:Nat->Prop)(c:b3)(v:aa):Prop:=∃cs,v= .agg cs/\fr.V H ok c cs
def hj{α:Type}{l:List α}{i:Int}(a:0<=i):dE l i=l[i.toNat]? :=if_pos a
def Cz{α:Type}{l:List α}{i:Int}{a:α}:dE l i=D a↔0<=i/\l[i.toNat]? =D a:=by
 unfold dE;split
 ·rename_i h;exact⟨λe=>⟨h,e⟩,λe=>e.2⟩
 ·rename_i h;exact⟨λe=>(by cases e),λe=>absurd e.1 h⟩
def eL{α:Type}{l:List α}{i:Int}:dE l i=I↔i<0\/(l.length:Int)<=i:=by
 unfold dE;split
 ·rename_i h;rw[List.getElem?_eq_none_iff];omega
 ·rename_i h;exact⟨λ_=> .inl ai,λ_=>rfl⟩
def J7(a b c ck b' d:Int):gY P 10000 46 (.agg [J X a,J X b,J X c]) (.agg [J X ck,J X b',J X d])=bif a==ck then(bif b==b' then(bif c==d then D C else D Z)else D Z)else D false:=ag
def B3(t u:cz):gY P 10000 46 (cX t) (cX u)=D (decide (t=u)):=by
 refine(J7 t.b t.r t.d u.b u.r u.d).trans ?_;obtain⟨a,b,c⟩:=t;obtain⟨ck,b',e⟩:=u;simp only[cz.mk.injEq];cases ae:(a==ck)<;>cases ah:(b==b')<;>cases ak:(c==e)<;>simp_all
def di(t u:cz)(z:Bool):ar P .eql 46 z (cX t) (cX u)=D (y (decide (t=u))):=by
 have h:lX P 46 z (cX t) (cX u)=true:=ag;show(if lX P 46 z (cX t) (cX u)then(gY P 10000 46 (cX t) (cX u)).map aa.bool else I)=_;rw[if_pos h,B3];rfl
def gK(t u:cz)(z:Bool):ar P .neq 46 z (cX t) (cX u)=D (y (decide (t≠u))):=by
 have h:lX P 46 z (cX t) (cX u)=true:=ag;show(if lX P 46 z (cX t) (cX u)then(gY P 10000 46 (cX t) (cX u)).map (λb=>aa.bool (!b))else I)=_;rw[if_pos h,B3];simp
