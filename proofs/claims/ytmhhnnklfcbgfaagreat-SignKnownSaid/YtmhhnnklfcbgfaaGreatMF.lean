/-
  Texts of one proof, laid together: ShA.
-/
import Derived.Test.YtmhhnnklfcbgfaaGreatME
set_option linter.unusedVariables false
set_option linter.unusedSimpArgs false
set_option linter.defProp false
open Option renaming some→D,none→Y
open Bool renaming true→V,false→U
open Go.bN.aa renaming int→I,str→X,bool→Z
open Go.IntKind renaming i64→J
namespace Go.Proofs.YtmhhnnklfcbgfaaGreat
open Go.bN
set_option maxRecDepth 100000
noncomputable section
def qK(G:ai)(b:aa)(H:ae):O:=ad (al P .eql 30 V b aa.ar) λd=>ax (D d) (D (aa.ar,H)) (aO H (D (.ag (H).next 0 0 1 (D 0),.row U 1 [])) λe a=>au a (bJ P a [30,30] e b) λf c=>D (f,c))
def RX(G:ai)(N:Nat)(a:aa)(H:ae):aD Tryz.f43 G N (aP [a]) H=qK G a H:=by
 refine aS (A:=aD Tryz.f43 G N) (aj _) ?_;delta qK;kernel_rfl
def mU(G:ai)(N:Nat)(a:aa)(H:ae):O:=some (a,H)
def S7(G:ai)(N:Nat):∀C H,aE P G N (af (af (af (af (af (aG Tryz.f79)))))) (ay Tryz.f79) [] (ay Tryz.f79) C H=mU G N (C 6) H:=by
 refine aH (aj _) λC H=> ?_
 delta mU;kernel_rfl
def vp(G:ai)(N:Nat)(e:aa->aa->aa->aa->ae->O)(d b:aa)(c a:aa)(H:ae):O:=ad (al P .lss 3 U a c) λg=>ax (D g) (ad (aF P 198 b a) λh=>ad (ah P H 53 h) λi=>au H (bJ P H [53,53] d i) λj f=>ad (al P .add 3 V a (I J 1)) λk=>e j b c k f) (mU G N d H)
def mW(G:ai)(N:Nat):Nat->aa->aa->aa->aa->ae->O
 |0,_,_,_,_,_=>Y
 |n+1,d,a,b,c,H=>vp G N (mW G N n) d a b c H
def S3(G:ai)(N:Nat)(b:aa->aa->aa->aa->ae->O):∀C H,aE P G N (an (an (af (an (af (af (af (af (aG Tryz.f79))))))))) (λC H=>b (C 6) (C 25) (C 26) (C 27) H) [(2,(λC H=>mU G N (C 6) H))] (ay Tryz.f79) C H=vp G N b (C 6) (C 25) (C 26) (C 27) H:=by
 refine aH (aj _) λC H=> ?_
 delta vp;generalize mU G N=a;revert a;refine id ?_;intro a;kernel_rfl
def hd(G:ai)(N:Nat)(b e:aa)(H:ae):O:=au H (G 133 [aa.ar,e] H) λc a=>aZ P .len [198] [b] a λd=>mW G N N c b d (I J 0) a
def S6(G:ai)(N:Nat):∀C H,aE P G N (af (af (af (aG Tryz.f79)))) (ay Tryz.f79) [] (ay Tryz.f79) C H=hd G N (C 0) (C 3) H:=by
 refine aH ((aq j ((aq j (S7 G N) ((aq j ((aT j ((a8 (k:=λm C H=>mW G N m (C 6) (C 25) (C 26) (C 27) H) j (λC H=>j) (λm=>S3 G N (mW G N m)))))) (aj _))))) (aj _))) λC H=> ?_
 delta hd;generalize mW G N N=a;revert a;refine id ?_;intro a;kernel_rfl
def mV(G:ai)(N:Nat)(a:aa->aa->aa->aa->aa->ae->O)(b f:aa)(g c d:aa)(H:ae):O:=ad (al P .add 3 V d (I J 1)) λe=>a b f g c e H
def S8(G:ai)(N:Nat)(a:aa->aa->aa->aa->aa->ae->O):∀C H,aE P G N (af (af (af (an (an (af (an (af (af (aG Tryz.f79)))))))))) (λC H=>a (C 0) (C 3) (C 9) (C 10) (C 11) H) [(0,(λC H=>hd G N (C 0) (C 3) H))] (ay Tryz.f79) C H=mV G N a (C 0) (C 3) (C 9) (C 10) (C 11) H:=by
 refine aH (aj _) λC H=> ?_
 delta mV;kernel_rfl
def vq(G:ai)(N:Nat)(f:aa->aa->aa->aa->aa->ae->O)(b g:aa)(e c a:aa)(H:ae):O:=ad (al P .lss 3 U a c) λh=>ax (D h) (ad (aF P 198 e a) λi=>ad (ah P H 53 i) λj=>aZ P .len [53] [j] H λk=>ad (al P .add 3 U g k) λd=>ad (al P .lss 3 V d (I J 0)) λl=>ax (D l) (ad (ej P 9 (X [108,101,110,32,111,117,116,32,111,102,32,114,97,110,103,101])) λm=>ad ((Y:Option aa)) λy=>mV G N f b d e c a H) (mV G N f b d e c a H)) (hd G N b g H)
def mX(G:ai)(N:Nat):Nat->aa->aa->aa->aa->aa->ae->O
 |0,_,_,_,_,_,_=>Y
 |n+1,a,d,e,b,c,H=>vq G N (mX G N n) a d e b c H
def S4(G:ai)(N:Nat)(a:aa->aa->aa->aa->aa->ae->O):∀C H,aE P G N (an (an (af (an (af (af (aG Tryz.f79))))))) (λC H=>a (C 0) (C 3) (C 9) (C 10) (C 11) H) [(0,(λC H=>hd G N (C 0) (C 3) H))] (ay Tryz.f79) C H=vq G N a (C 0) (C 3) (C 9) (C 10) (C 11) H:=by
 refine aH ((aq j ((aq j ((aq j (S8 G N a) (aj _))) (aj _))) (aj _))) λC H=> ?_
 delta vq;generalize hd G N=b;generalize mV G N a=c;revert b c;refine id ?_;intro b c;kernel_rfl
def ra(G:ai)(N:Nat)(a:aa)(H:ae):O:=aZ P .len [198] [a] H λb=>mX G N N a (I J 0) a b (I J 0) H
def S5(G:ai)(N:Nat)(b:aa)(H:ae):aD Tryz.f79 G N (aP [b]) H=ra G N b H:=by
 refine aS (A:=aD Tryz.f79 G N) ((aq j ((aq j ((aq j (S6 G N) ((aq j ((aT j ((a8 (k:=λm C H=>mX G N m (C 0) (C 3) (C 9) (C 10) (C 11) H) j (λC H=>j) (λm=>S4 G N (mX G N m)))))) (aj _))))) (aj _))) (aj _))) ?_;delta ra;generalize mX G N N=a;revert a;refine id ?_;intro a;kernel_rfl
def m0(G:ai)(N:Nat)(H:ae):O:=some ((Z V),H)
def Td(G:ai)(N:Nat):∀C H,aE P G N (af (af (af (aG Tryz.f81)))) (ay Tryz.f81) [] (ay Tryz.f81) C H=m0 G N H:=by
 refine aH (aj _) λC H=> ?_
 delta m0;kernel_rfl
def vs(G:ai)(N:Nat)(e:aa->aa->aa->aa->ae->O)(b c:aa)(d a:aa)(H:ae):O:=ad (al P .lss 3 U a d) λf=>ax (D f) (ad (aF P 30 b a) λg=>ad (ah P H 3 g) λh=>ad (aF P 30 c a) λi=>ad (ah P H 3 i) λj=>ad (al P .neq 3 U h j) λk=>ax (D k) (D ((Z U),H)) (ad (al P .add 3 V a (I J 1)) λl=>e b c d l H)) (m0 G N H)
def m1(G:ai)(N:Nat):Nat->aa->aa->aa->aa->ae->O
 |0,_,_,_,_,_=>Y
 |n+1,a,b,c,d,H=>vs G N (m1 G N n) a b c d H
def Tb(G:ai)(N:Nat)(b:aa->aa->aa->aa->ae->O):∀C H,aE P G N (an (an (af (an (af (af (aG Tryz.f81))))))) (λC H=>b (C 0) (C 1) (C 12) (C 13) H) [(0,(λC H=>m0 G N H))] (ay Tryz.f81) C H=vs G N b (C 0) (C 1) (C 12) (C 13) H:=by
 refine aH (aj _) λC H=> ?_
 delta vs;generalize m0 G N=a;revert a;refine id ?_;intro a;kernel_rfl
def re(G:ai)(N:Nat)(a b:aa)(H:ae):O:=aZ P .len [30] [a] H λe=>aZ P .len [30] [b] H λf=>ad (al P .neq 3 U e f) λc=>ax (D c) (D ((Z U),H)) (aZ P .len [30] [a] H λd=>m1 G N N a b d (I J 0) H)
def Tc(G:ai)(N:Nat)(b:aa)(c:aa)(H:ae):aD Tryz.f81 G N (aP [b,c]) H=re G N b c H:=by
 refine aS (A:=aD Tryz.f81 G N) ((aq j ((aq j ((aq j (Td G N) ((aq j ((aT j ((a8 (k:=λm C H=>m1 G N m (C 0) (C 1) (C 12) (C 13) H) j (λC H=>j) (λm=>Tb G N (m1 G N m)))))) (aj _))))) (aj _))) (aj _))) ?_;delta re;generalize m1 G N N=a;revert a;refine id ?_;intro a;kernel_rfl
def rj(G:ai)(b c:aa)(H:ae):O:=au H (G 134 [b,c] H) λd a=>ad (al P .geq 3 V d (I J 0)) λe=>D (e,a)
def Tj(G:ai)(N:Nat)(a:aa)(b:aa)(H:ae):aD Tryz.f94 G N (aP [a,b]) H=rj G a b H:=by
 refine aS (A:=aD Tryz.f94 G N) (aj _) ?_;delta rj;kernel_rfl
def rn(G:ai)(b c:aa)(H:ae):O:=au H (G 146 [b,c] H) λd a=>ad (al P .geq 3 V d (I J 0)) λe=>D (e,a)
def To(G:ai)(N:Nat)(a:aa)(b:aa)(H:ae):aD Tryz.f99 G N (aP [a,b]) H=rn G a b H:=by
 refine aS (A:=aD Tryz.f99 G N) (aj _) ?_;delta rn;kernel_rfl
def jd(G:ai)(a:aa)(H:ae):O:=some (a,H)
def LK(G:ai)(N:Nat):∀C H,aE P G N (af (af (af (aG Tryz.f133)))) (ay Tryz.f133) [] (ay Tryz.f133) C H=jd G (C 0) H:=by
 refine aH (aj _) λC H=> ?_
 delta jd;kernel_rfl
def jc(G:ai)(a d:aa)(H:ae):O:=aZ P .cap [53] [a] H λe=>aZ P .len [53] [a] H λf=>ad (al P .sub 3 U e f) λg=>ad (al P .sub 3 U d g) λc=>ad (al P .gtr 3 V c (I J 0)) λh=>ax (D h) (aZ P .cap [53] [a] H λi=>ad (c1 P 53 a Y (D i) Y) λj=>au H (bJ P H [53,3] j c) λk b=>aZ P .len [53] [a] b λl=>ad (c1 P 53 k Y (D l) Y) λm=>jd G m b) (jd G a H)
def LJ(G:ai)(N:Nat):∀C H,aE P G N (af (af (aG Tryz.f133))) (ay Tryz.f133) [] (ay Tryz.f133) C H=jc G (C 0) (C 1) H:=by
 refine aH ((aq j (LK G N) (aj _))) λC H=> ?_
 delta jc;generalize jd G=a;revert a;refine id ?_;intro a;kernel_rfl
def oq(G:ai)(b a:aa)(H:ae):O:=ad (al P .lss 3 V a (I J 0)) λc=>ax (D c) (ad (ej P 9 (X [99,97,110,110,111,116,32,98,101,32,110,101,103,97,116,105,118,101])) λd=>ad ((Y:Option aa)) λy=>jc G b a H) (jc G b a H)
def LI(G:ai)(N:Nat)(b:aa)(c:aa)(H:ae):aD Tryz.f133 G N (aP [b,c]) H=oq G b c H:=by
 refine aS (A:=aD Tryz.f133 G N) ((aq j ((aq j (LJ G N) (aj _))) (aj _))) ?_;delta oq;generalize jc G=a;revert a;refine id ?_;intro a;kernel_rfl
def je(G:ai)(N:Nat)(H:ae):O:=some ((I J (-1)),H)
def LO(G:ai)(N:Nat):∀C H,aE P G N (af (af (aG Tryz.f134))) (ay Tryz.f134) [] (ay Tryz.f134) C H=je G N H:=by
 refine aH (aj _) λC H=> ?_
 delta je;kernel_rfl
def tw(G:ai)(N:Nat)(e:aa->aa->aa->aa->ae->O)(b c:aa)(d a:aa)(H:ae):O:=ad (al P .lss 3 U a d) λj=>ax (D j) (ad (aF P 30 b a) λf=>ad (ah P H 3 f) λg=>ad (al P .eql 3 U c g) λh=>ax (D h) (D (a,H)) (ad (al P .add 3 V a (I J 1)) λi=>e b c d i H)) (je G N H)
def jf(G:ai)(N:Nat):Nat->aa->aa->aa->aa->ae->O
 |0,_,_,_,_,_=>Y
 |n+1,a,b,c,d,H=>tw G N (jf G N n) a b c d H
def LL(G:ai)(N:Nat)(b:aa->aa->aa->aa->ae->O):∀C H,aE P G N (an (an (af (an (af (aG Tryz.f134)))))) (λC H=>b (C 0) (C 1) (C 7) (C 8) H) [(0,(λC H=>je G N H))] (ay Tryz.f134) C H=tw G N b (C 0) (C 1) (C 7) (C 8) H:=by
 refine aH (aj _) λC H=> ?_
 delta tw;generalize je G N=a;revert a;refine id ?_;intro a;kernel_rfl
def ou(G:ai)(N:Nat)(a b:aa)(H:ae):O:=aZ P .len [30] [a] H λc=>jf G N N a b c (I J 0) H
def LN(G:ai)(N:Nat)(b:aa)(c:aa)(H:ae):aD Tryz.f134 G N (aP [b,c]) H=ou G N b c H:=by
 refine aS (A:=aD Tryz.f134 G N) ((aq j ((aq j (LO G N) ((aq j ((aT j ((a8 (k:=λm C H=>jf G N m (C 0) (C 1) (C 7) (C 8) H) j (λC H=>j) (λm=>LL G N (jf G N m)))))) (aj _))))) (aj _))) ?_;delta ou;generalize jf G N N=a;revert a;refine id ?_;intro a;kernel_rfl
def jn(G:ai)(N:Nat)(H:ae):O:=some ((I J (-1)),H)
def L1(G:ai)(N:Nat):∀C H,aE P G N (af (af (aG Tryz.f146))) (ay Tryz.f146) [] (ay Tryz.f146) C H=jn G N H:=by
 refine aH (aj _) λC H=> ?_
 delta jn;kernel_rfl
def tA(G:ai)(N:Nat)(f:aa->aa->aa->aa->ae->O)(c d:aa)(e a:aa)(H:ae):O:=ad (al P .lss 3 U a e) λk=>ax (D k) (ad (aF P 31 c a) λg=>ad (ah P H 30 g) λh=>rB G H d [h] λi b=>ax (D i) (D (a,b)) (ad (al P .add 3 V a (I J 1)) λj=>f c d e j b)) (jn G N H)
def jo(G:ai)(N:Nat):Nat->aa->aa->aa->aa->ae->O
 |0,_,_,_,_,_=>Y
 |n+1,a,b,c,d,H=>tA G N (jo G N n) a b c d H
def LZ(G:ai)(N:Nat)(b:aa->aa->aa->aa->ae->O):∀C H,aE P G N (an (an (af (an (af (aG Tryz.f146)))))) (λC H=>b (C 0) (C 1) (C 7) (C 8) H) [(0,(λC H=>jn G N H))] (ay Tryz.f146) C H=tA G N b (C 0) (C 1) (C 7) (C 8) H:=by
 refine aH (aj _) λC H=> ?_
 delta tA;generalize jn G N=a;revert a;refine id ?_;intro a;kernel_rfl
def oy(G:ai)(N:Nat)(a b:aa)(H:ae):O:=aZ P .len [31] [a] H λc=>jo G N N a b c (I J 0) H
def L0(G:ai)(N:Nat)(b:aa)(c:aa)(H:ae):aD Tryz.f146 G N (aP [b,c]) H=oy G N b c H:=by
 refine aS (A:=aD Tryz.f146 G N) ((aq j ((aq j (L1 G N) ((aq j ((aT j ((a8 (k:=λm C H=>jo G N m (C 0) (C 1) (C 7) (C 8) H) j (λC H=>j) (λm=>LZ G N (jo G N m)))))) (aj _))))) (aj _))) ?_;delta oy;generalize jo G N N=a;revert a;refine id ?_;intro a;kernel_rfl
def o2(G:ai)(b c:aa)(H:ae):O:=au H (G 219 [b,c] H) λd a=>ad (al P .geq 3 V d (I J 0)) λe=>D (e,a)
def Nj(G:ai)(N:Nat)(a:aa)(b:aa)(H:ae):aD Tryz.f177 G N (aP [a,b]) H=o2 G a b H:=by
 refine aS (A:=aD Tryz.f177 G N) (aj _) ?_;delta o2;kernel_rfl
def lp(G:ai)(N:Nat)(H:ae):O:=some ((I J (-1)),H)
def PM(G:ai)(N:Nat):∀C H,aE P G N (af (af (aG Tryz.f219))) (ay Tryz.f219) [] (ay Tryz.f219) C H=lp G N H:=by
 refine aH (aj _) λC H=> ?_
 delta lp;kernel_rfl
def uJ(G:ai)(N:Nat)(f:aa->aa->aa->aa->ae->O)(c d:aa)(e a:aa)(H:ae):O:=ad (al P .lss 3 U a e) λk=>ax (D k) (ad (aF P 53 c a) λg=>ad (ah P H 56 g) λh=>rB G H d [h] λi b=>ax (D i) (D (a,b)) (ad (al P .add 3 V a (I J 1)) λj=>f c d e j b)) (lp G N H)
def lq(G:ai)(N:Nat):Nat->aa->aa->aa->aa->ae->O
 |0,_,_,_,_,_=>Y
 |n+1,a,b,c,d,H=>uJ G N (lq G N n) a b c d H
def PK(G:ai)(N:Nat)(b:aa->aa->aa->aa->ae->O):∀C H,aE P G N (an (an (af (an (af (aG Tryz.f219)))))) (λC H=>b (C 0) (C 1) (C 7) (C 8) H) [(0,(λC H=>lp G N H))] (ay Tryz.f219) C H=uJ G N b (C 0) (C 1) (C 7) (C 8) H:=by
 refine aH (aj _) λC H=> ?_
 delta uJ;generalize lp G N=a;revert a;refine id ?_;intro a;kernel_rfl
def pM(G:ai)(N:Nat)(a b:aa)(H:ae):O:=aZ P .len [53] [a] H λc=>lq G N N a b c (I J 0) H
def PL(G:ai)(N:Nat)(b:aa)(c:aa)(H:ae):aD Tryz.f219 G N (aP [b,c]) H=pM G N b c H:=by
 refine aS (A:=aD Tryz.f219 G N) ((aq j ((aq j (PM G N) ((aq j ((aT j ((a8 (k:=λm C H=>lq G N m (C 0) (C 1) (C 7) (C 8) H) j (λC H=>j) (λm=>PK G N (lq G N m)))))) (aj _))))) (aj _))) ?_;delta pM;generalize lq G N N=a;revert a;refine id ?_;intro a;kernel_rfl
def qj(G:ai)(b c:aa)(H:ae):O:=au H (G 261 [b,c] H) λd a=>ad (al P .geq 3 V d (I J 0)) λe=>D (e,a)
def QX(G:ai)(N:Nat)(a:aa)(b:aa)(H:ae):aD Tryz.f252 G N (aP [a,b]) H=qj G a b H:=by
 refine aS (A:=aD Tryz.f252 G N) (aj _) ?_;delta qj;kernel_rfl
def l3(G:ai)(N:Nat)(H:ae):O:=some ((I J (-1)),H)
def Rk(G:ai)(N:Nat):∀C H,aE P G N (af (af (aG Tryz.f261))) (ay Tryz.f261) [] (ay Tryz.f261) C H=l3 G N H:=by
 refine aH (aj _) λC H=> ?_
 delta l3;kernel_rfl
def uX(G:ai)(N:Nat)(f:aa->aa->aa->aa->ae->O)(c d:aa)(e a:aa)(H:ae):O:=ad (al P .lss 3 U a e) λk=>ax (D k) (ad (aF P 30 c a) λg=>ad (ah P H 3 g) λh=>rB G H d [h] λi b=>ax (D i) (D (a,b)) (ad (al P .add 3 V a (I J 1)) λj=>f c d e j b)) (l3 G N H)
def l4(G:ai)(N:Nat):Nat->aa->aa->aa->aa->ae->O
 |0,_,_,_,_,_=>Y
 |n+1,a,b,c,d,H=>uX G N (l4 G N n) a b c d H
def Ri(G:ai)(N:Nat)(b:aa->aa->aa->aa->ae->O):∀C H,aE P G N (an (an (af (an (af (aG Tryz.f261)))))) (λC H=>b (C 0) (C 1) (C 7) (C 8) H) [(0,(λC H=>l3 G N H))] (ay Tryz.f261) C H=uX G N b (C 0) (C 1) (C 7) (C 8) H:=by
 refine aH (aj _) λC H=> ?_
 delta uX;generalize l3 G N=a;revert a;refine id ?_;intro a;kernel_rfl
def qt(G:ai)(N:Nat)(a b:aa)(H:ae):O:=aZ P .len [30] [a] H λc=>l4 G N N a b c (I J 0) H
def Rj(G:ai)(N:Nat)(b:aa)(c:aa)(H:ae):aD Tryz.f261 G N (aP [b,c]) H=qt G N b c H:=by
 refine aS (A:=aD Tryz.f261 G N) ((aq j ((aq j (Rk G N) ((aq j ((aT j ((a8 (k:=λm C H=>l4 G N m (C 0) (C 1) (C 7) (C 8) H) j (λC H=>j) (λm=>Ri G N (l4 G N m)))))) (aj _))))) (aj _))) ?_;delta qt;generalize l4 G N N=a;revert a;refine id ?_;intro a;kernel_rfl
def qI(G:ai)(d:aa)(H:ae):O:=au H (G 95 [d] H) λb a=>au a (G 96 [b] a) λe c=>D (b,c)
def RV(G:ai)(N:Nat)(a:aa)(H:ae):aD Tryz.f41 G N (aP [a]) H=qI G a H:=by
 refine aS (A:=aD Tryz.f41 G N) (aj _) ?_;delta qI;kernel_rfl
def qJ(G:ai)(b:aa)(H:ae):O:=aO H (bo (H).next b) λc a=>D ((.func (.func 97) [] [c]),a)
def RW(G:ai)(N:Nat)(a:aa)(H:ae):aD Tryz.f42 G N (aP [a]) H=qJ G a H:=by
 refine aS (A:=aD Tryz.f42 G N) (aj _) ?_;delta qJ;kernel_rfl
def vt(G:ai)(N:Nat)(f:aa->aa->aa->aa->ae->O)(c d:aa)(e a:aa)(H:ae):O:=ad (al P .lss 3 U a e) λk=>ax (D k) (ad (aF P 30 d a) λl=>ad (ah P H 3 l) λg=>rB G H c [g] λh b=>ad (bt .not h) λi=>ax (D i) (D (.tuple [],b)) (ad (al P .add 3 V a (I J 1)) λj=>f c d e j b)) (D (.tuple [],H))
def m3(G:ai)(N:Nat):Nat->aa->aa->aa->aa->ae->O
 |0,_,_,_,_,_=>Y
 |n+1,a,b,c,d,H=>vt G N (m3 G N n) a b c d H
def Tl(G:ai)(N:Nat)(a:aa->aa->aa->aa->ae->O):∀C H,aE P G N (an (an (af (aG Tryz.f97)))) (λC H=>a (C 0) (C 5) (C 6) (C 7) H) [(0,(ay Tryz.f97))] (ay Tryz.f97) C H=vt G N a (C 0) (C 5) (C 6) (C 7) H:=by
 refine aH (aj _) λC H=> ?_
 delta vt;kernel_rfl
def rl(G:ai)(N:Nat)(b c:aa)(H:ae):O:=ad (ah P H 30 c) λa=>aZ P .len [30] [a] H λd=>m3 G N N b a d (I J 0) H
def Tm(G:ai)(N:Nat)(b:aa)(c:aa)(H:ae):aD Tryz.f97 G N (aP [b,c]) H=rl G N b c H:=by
 refine aS (A:=aD Tryz.f97 G N) ((aq j ((aT j ((a8 (k:=λm C H=>m3 G N m (C 0) (C 5) (C 6) (C 7) H) j (λC H=>j) (λm=>Tl G N (m3 G N m)))))) (aj _))) ?_;delta rl;generalize m3 G N N=a;revert a;refine id ?_;intro a;kernel_rfl
