/-
  Texts of one proof, laid together: ShH ShJ.
-/
import Derived.Test.YtmhhnnklfcbgfaaGreatME
set_option linter.unusedVariables false
set_option linter.unusedSimpArgs false
set_option linter.defProp false
open Option renaming some→D,none→Y
open Bool renaming true→V,false→U
open Go.bN.aa renaming int→I,bool→Z
open Go.IntKind renaming i64→J
namespace Go.Proofs.YtmhhnnklfcbgfaaGreat
open Go.bN
section
set_option maxRecDepth 100000
noncomputable section
def nV(G:ai)(h:aa)(H:ae):O:=aO H (bo (H).next h) λf g=>a7 g [I J 0,aa.ar,aa.ar,aa.ar] λc d=>ad (ah P d 27 f) λi=>au d (G 35 [i] d) λj a=>ad (bt .not j) λk=>ax (D k) (aB a (aA P a 33 c (.agg [I J 0,aa.ar,aa.ar,aa.ar])) λb=>ad (ah P b 33 c) λr=>D (r,b)) (ad (ah P a 27 f) λl=>au a (G 36 [l] a) λm b=>aB b (aA P b 33 c m) λe=>ad (ah P e 33 c) λr=>D (r,e))
def KR(G:ai)(N:Nat)(a:aa)(H:ae):aD Tryz.f11 G N (aP [a]) H=nV G a H:=by
 refine aS (A:=aD Tryz.f11 G N) (aj _) ?_;delta nV;kernel_rfl
def ov(G:ai)(d:aa)(H:ae):O:=aO H (bo (H).next d) λe a=>ad (ah P a 27 e) λh=>au a (G 38 [h] a) λc b=>ad (al P .neq 73 V c aa.cr) λi=>ax (D i) (ad (aL c) λj=>ad (ak P 76 j 2) λf=>ad (ah P b 30 f) λg=>D (g,b)) (D (aa.ar,b))
def L4(G:ai)(N:Nat)(a:aa)(H:ae):aD Tryz.f14 G N (aP [a]) H=ov G a H:=by
 refine aS (A:=aD Tryz.f14 G N) (aj _) ?_;delta ov;kernel_rfl
def kp(G:ai)(N:Nat)(a:aa)(H:ae):O:=some (a,H)
def N6(G:ai)(N:Nat):∀C H,aE P G N (af (af (af (af (af (af (aG Tryz.f18))))))) (ay Tryz.f18) [] (ay Tryz.f18) C H=kp G N (C 4) H:=by
 refine aH (aj _) λC H=> ?_
 delta kp;kernel_rfl
def ub(G:ai)(N:Nat)(f:aa->aa->aa->ae->O)(a e b:aa)(H:ae):O:=ad (al P .lss 3 U b e) λh=>ax (D h) (ad (aF P 31 a b) λi=>ad (ah P H 30 i) λj=>au H (G 42 [j] H) λk c=>au c (G 41 [k] c) λl d=>ad (aF P 31 a b) λm=>aB d (aA P d 30 m l) λg=>ad (al P .add 3 V b (I J 1)) λn=>f a e n g) (kp G N a H)
def kr(G:ai)(N:Nat):Nat->aa->aa->aa->ae->O
 |0,_,_,_,_=>Y
 |n+1,a,b,c,H=>ub G N (kr G N n) a b c H
def N1(G:ai)(N:Nat)(b:aa->aa->aa->ae->O):∀C H,aE P G N (an (an (af (an (af (af (af (af (af (aG Tryz.f18)))))))))) (λC H=>b (C 4) (C 41) (C 42) H) [(4,(λC H=>kp G N (C 4) H))] (ay Tryz.f18) C H=ub G N b (C 4) (C 41) (C 42) H:=by
 refine aH (aj _) λC H=> ?_
 delta ub;generalize kp G N=a;revert a;refine id ?_;intro a;kernel_rfl
def fQ(G:ai)(N:Nat)(a:aa)(H:ae):O:=aZ P .len [31] [a] H λb=>kr G N N a b (I J 0) H
def N5(G:ai)(N:Nat):∀C H,aE P G N (af (af (af (af (af (aG Tryz.f18)))))) (ay Tryz.f18) [] (ay Tryz.f18) C H=fQ G N (C 4) H:=by
 refine aH ((aq j (N6 G N) ((aq j ((aT j ((a8 (k:=λm C H=>kr G N m (C 4) (C 41) (C 42) H) j (λC H=>j) (λm=>N1 G N (kr G N m)))))) (aj _))))) λC H=> ?_
 delta fQ;generalize kr G N N=a;revert a;refine id ?_;intro a;kernel_rfl
def kq(G:ai)(N:Nat)(h:aa->aa->aa->ae->O)(a:aa->aa->aa->aa->aa->ae->O)(d f:aa)(g b c:aa)(H:ae):O:=ad (al P .add 3 V c (I J 1)) λe=>a d f g b e H
def N7(G:ai)(N:Nat)(a:aa->aa->aa->ae->O)(b:aa->aa->aa->aa->aa->ae->O):∀C H,aE P G N (af (af (af (an (an (af (af (an (af (an (an (af (an (af (af (af (af (aG Tryz.f18)))))))))))))))))) (λC H=>b (C 3) (C 4) (C 5) (C 19) (C 20) H) [(2,(λC H=>a (C 3) (C 4) (C 5) H)),(1,(λC H=>a (C 3) (C 4) (C 5) H)),(0,(λC H=>fQ G N (C 4) H))] (ay Tryz.f18) C H=kq G N a b (C 3) (C 4) (C 5) (C 19) (C 20) H:=by
 refine aH (aj _) λC H=> ?_
 delta kq;kernel_rfl
def ud(G:ai)(N:Nat)(e:aa->aa->aa->ae->O)(g:aa->aa->aa->aa->aa->ae->O)(d c:aa)(i f b:aa)(H:ae):O:=ad (al P .lss 3 U b f) λk=>ax (D k) (au H (G 40 [d,b,c] H) λh a=>aZ P .len [30] [h] a λl=>ad (aF P 31 c b) λm=>ad (ah P a 30 m) λn=>aZ P .len [30] [n] a λo=>ad (al P .gtr 3 U l o) λp=>ax (D p) (ad (aF P 31 c b) λq=>aB a (aA P a 30 q h) λj=>kq G N e g d c (Z V) f b j) (kq G N e g d c i f b a)) (e d c i H)
def kt(G:ai)(N:Nat)(a:aa->aa->aa->ae->O):Nat->aa->aa->aa->aa->aa->ae->O
 |0,_,_,_,_,_,_=>Y
 |n+1,d,e,f,b,c,H=>ud G N a (kt G N a n) d e f b c H
def N3(G:ai)(N:Nat)(a:aa->aa->aa->ae->O)(b:aa->aa->aa->aa->aa->ae->O):∀C H,aE P G N (an (an (af (af (an (af (an (an (af (an (af (af (af (af (aG Tryz.f18))))))))))))))) (λC H=>b (C 3) (C 4) (C 5) (C 19) (C 20) H) [(2,(λC H=>a (C 3) (C 4) (C 5) H)),(1,(λC H=>a (C 3) (C 4) (C 5) H)),(0,(λC H=>fQ G N (C 4) H))] (ay Tryz.f18) C H=ud G N a b (C 3) (C 4) (C 5) (C 19) (C 20) H:=by
 refine aH ((aq j ((aq j ((aq j (N7 G N a b) (aj _))) (aj _))) (aj _))) λC H=> ?_
 delta ud;generalize a=c;generalize kq G N a b=d;revert c d;refine id ?_;intro c d;kernel_rfl
def uc(G:ai)(N:Nat)(b:aa->aa->aa->ae->O)(d a e:aa)(H:ae):O:=ax (D e) (aZ P .len [31] [a] H λc=>kt G N b N d a (Z U) c (I J 0) H) (fQ G N a H)
def ks(G:ai)(N:Nat):Nat->aa->aa->aa->ae->O
 |0,_,_,_,_=>Y
 |n+1,a,b,c,H=>uc G N (ks G N n) a b c H
def N2(G:ai)(N:Nat)(a:aa->aa->aa->ae->O):∀C H,aE P G N (an (an (af (an (af (af (af (af (aG Tryz.f18))))))))) (λC H=>a (C 3) (C 4) (C 5) H) [(0,(λC H=>fQ G N (C 4) H))] (ay Tryz.f18) C H=uc G N a (C 3) (C 4) (C 5) H:=by
 refine aH ((aq j ((aT j ((aq j ((aq j ((aT j ((a8 (k:=λm C H=>kt G N a m (C 3) (C 4) (C 5) (C 19) (C 20) H) j (λC H=>j) (λm=>N3 G N a (kt G N a m)))))) (aj _))) (aj _))))) (aj _))) λC H=> ?_
 delta uc;generalize fQ G N=b;generalize kt G N a N=c;revert b c;refine id ?_;intro b c;kernel_rfl
def o5(G:ai)(N:Nat)(g:aa)(H:ae):O:=aO H (bo (H).next g) λc b=>ad (ah P b 27 c) λl=>au b (G 38 [l] b) λd a=>ad (al P .eql 73 V d aa.cr) λh=>ax (D h) (D (aa.ar,a)) (ad (ak P 27 c 2) λi=>ad (ah P a 24 i) λj=>aZ P .len [24] [j] a λe=>aO a (cz (cO P ⟨.leaf,(a).next⟩ 31 e e) (a).next) λk f=>ks G N N d k (Z V) f)
def N4(G:ai)(N:Nat)(b:aa)(H:ae):aD Tryz.f18 G N (aP [b]) H=o5 G N b H:=by
 refine aS (A:=aD Tryz.f18 G N) ((aq j ((aq j ((aq j ((aq j ((aq j (N5 G N) ((aq j ((aT j ((a8 (k:=λm C H=>ks G N m (C 3) (C 4) (C 5) H) j (λC H=>j) (λm=>N2 G N (ks G N m)))))) (aj _))))) (aj _))) (aj _))) (aj _))) (aj _))) ?_;delta o5;generalize ks G N N=a;revert a;refine id ?_;intro a;kernel_rfl
def e4(G:ai)(N:Nat)(a:aa)(H:ae):O:=some (a,H)
def Pk(G:ai)(N:Nat):∀C H,aE P G N (af (af (af (af (af (aG Tryz.f20)))))) (ay Tryz.f20) [] (ay Tryz.f20) C H=e4 G N (C 4) H:=by
 refine aH (aj _) λC H=> ?_
 delta e4;kernel_rfl
def fS(G:ai)(N:Nat)(a:aa->aa->aa->aa->aa->ae->O)(e f:aa)(b c d:aa)(H:ae):O:=ad (al P .add 3 V d (I J 1)) λg=>a e f b c g H
def Pl(G:ai)(N:Nat)(a:aa->aa->aa->aa->aa->ae->O):∀C H,aE P G N (af (af (af (an (an (af (an (af (af (af (af (aG Tryz.f20)))))))))))) (λC H=>a (C 3) (C 4) (C 15) (C 16) (C 17) H) [(0,(λC H=>e4 G N (C 4) H))] (ay Tryz.f20) C H=fS G N a (C 3) (C 4) (C 15) (C 16) (C 17) H:=by
 refine aH (aj _) λC H=> ?_
 delta fS;kernel_rfl
def k9(G:ai)(N:Nat)(l:aa->aa->aa->aa->aa->ae->O)(b q:aa)(u z:aa)(n o p:aa)(H:ae):O:=au H (G 47 [b,z] H) λr a=>ad (aL b) λs=>ad (ak P 76 s 2) λc=>ad (ah P a 30 c) λd=>ad (aL b) λt=>ad (ak P 76 t 3) λe=>ad (ah P a 31 e) λf=>ad (aF P 31 f u) λg=>ad (ah P a 30 g) λh=>aO a (bl P (a).next 31 2 [(0,d),(1,h)]) λv i=>au i (G 46 [r,v] i) λw j=>aO j (bl P (j).next 31 1 [(0,w)]) λx k=>au k (bJ P k [31,31] q x) λy m=>bif ((aJ (ah P H 30 c) d&&(aJ (ah P a 30 c) d&&V))&&((aJ (ah P H 31 e) f&&(aJ (ah P a 31 e) f&&V))&&((aJ (ah P H 30 g) h&&(aJ (ah P a 30 g) h&&V))&&V)))then(fS G N l b y n o p m)else Y
def Pm(G:ai)(N:Nat)(a:aa->aa->aa->aa->aa->ae->O):∀C H,aE P G N (af (af (af (an (an (af (af (an (an (af (an (af (af (af (af (aG Tryz.f20)))))))))))))))) (λC H=>fS G N a (C 3) (C 4) (C 15) (C 16) (C 17) H) [(1,(λC H=>fS G N a (C 3) (C 4) (C 15) (C 16) (C 17) H)),(0,(λC H=>e4 G N (C 4) H))] (ay Tryz.f20) C H=k9 G N a (C 3) (C 4) (C 5) (C 7) (C 15) (C 16) (C 17) H:=by
 refine aH (aj _) λC H=> ?_
 delta k9;generalize fS G N a=b;revert b;refine id ?_;intro b;kernel_rfl
def uF(G:ai)(N:Nat)(o:aa->aa->aa->aa->aa->ae->O)(p:aa->aa->aa->aa->aa->aa->aa->aa->aa->aa->ae->O)(c k:aa)(l m:aa)(f g:aa)(h i:aa)(j b:aa)(H:ae):O:=ad (al P .lss 3 U b j) λr=>ax (D r) (ad (aF P 47 i b) λs=>ad (ah P H 89 s) λt=>a7 H [I J 0,I J 0,I J 0,I J 0,I J 0,aa.ar] λn d=>aB d (aA P d 89 n t) λa=>ad (ah P a 89 n) λu=>au a (G 45 [c,u] a) λv e=>au e (bJ P e [30,30] m v) λw q=>ad (al P .add 3 V b (I J 1)) λx=>p c k l w f g h i j x q) (k9 G N o c k l m f g h H)
def la(G:ai)(N:Nat)(a:aa->aa->aa->aa->aa->ae->O):Nat->aa->aa->aa->aa->aa->aa->aa->aa->aa->aa->ae->O
 |0,_,_,_,_,_,_,_,_,_,_,_=>Y
 |n+1,h,i,j,k,b,c,d,e,f,g,H=>uF G N a (la G N a n) h i j k b c d e f g H
def Ph(G:ai)(N:Nat)(a:aa->aa->aa->aa->aa->ae->O)(c:aa->aa->aa->aa->aa->aa->aa->aa->aa->aa->ae->O):∀C H,aE P G N (an (an (af (an (af (af (an (an (af (af (an (an (af (an (af (af (af (af (aG Tryz.f20))))))))))))))))))) (λC H=>c (C 3) (C 4) (C 5) (C 7) (C 15) (C 16) (C 17) (C 27) (C 28) (C 29) H) [(2,(λC H=>k9 G N a (C 3) (C 4) (C 5) (C 7) (C 15) (C 16) (C 17) H)),(1,(λC H=>fS G N a (C 3) (C 4) (C 15) (C 16) (C 17) H)),(0,(λC H=>e4 G N (C 4) H))] (ay Tryz.f20) C H=uF G N a c (C 3) (C 4) (C 5) (C 7) (C 15) (C 16) (C 17) (C 27) (C 28) (C 29) H:=by
 refine aH (aj _) λC H=> ?_
 delta uF;generalize k9 G N a=b;revert b;refine id ?_;intro b;kernel_rfl
def uE(G:ai)(N:Nat)(l:aa->aa->aa->aa->aa->ae->O)(i j:aa)(f g a:aa)(H:ae):O:=ad (al P .lss 3 U a g) λm=>ax (D m) (ad (aF P 24 f a) λn=>ad (ah P H 49 n) λo=>a7 H [I J 0,aa.ar,Z U,I J 0,I J 0,I J 0,aa.ar] λk c=>aB c (aA P c 49 k o) λd=>au d (G 44 [i,a] d) λp e=>au e (G 43 [p] e) λq b=>ad (ak P 49 k 4) λr=>ad (ah P b 47 r) λh=>aZ P .len [47] [h] b λs=>la G N l N i j a q f g a h s (I J 0) b) (e4 G N j H)
def k_(G:ai)(N:Nat):Nat->aa->aa->aa->aa->aa->ae->O
 |0,_,_,_,_,_,_=>Y
 |n+1,d,e,a,b,c,H=>uE G N (k_ G N n) d e a b c H
def Pg(G:ai)(N:Nat)(a:aa->aa->aa->aa->aa->ae->O):∀C H,aE P G N (an (an (af (an (af (af (af (af (aG Tryz.f20))))))))) (λC H=>a (C 3) (C 4) (C 15) (C 16) (C 17) H) [(0,(λC H=>e4 G N (C 4) H))] (ay Tryz.f20) C H=uE G N a (C 3) (C 4) (C 15) (C 16) (C 17) H:=by
 refine aH ((aq j ((aq j ((aq j (Pl G N a) ((aT j ((aq j ((aq j ((aq j (Pm G N a) ((aq j ((aT j ((a8 (k:=λm C H=>la G N a m (C 3) (C 4) (C 5) (C 7) (C 15) (C 16) (C 17) (C 27) (C 28) (C 29) H) j (λC H=>j) (λm=>Ph G N a (la G N a m)))))) (aj _))))) (aj _))) (aj _))))))) (aj _))) (aj _))) λC H=> ?_
 delta uE;generalize e4 G N=b;generalize la G N a N=c;revert b c;refine id ?_;intro b c;kernel_rfl
def pr(G:ai)(N:Nat)(f:aa)(H:ae):O:=aO H (bo (H).next f) λc b=>ad (ah P b 27 c) λg=>au b (G 38 [g] b) λd a=>ad (al P .eql 73 V d aa.cr) λh=>ax (D h) (D (aa.ar,a)) (ad (ak P 27 c 2) λi=>ad (ah P a 24 i) λe=>aZ P .len [24] [e] a λj=>k_ G N N d aa.ar e j (I J 0) a)
def Pj(G:ai)(N:Nat)(b:aa)(H:ae):aD Tryz.f20 G N (aP [b]) H=pr G N b H:=by
 refine aS (A:=aD Tryz.f20 G N) ((aq j ((aq j ((aq j ((aq j ((aq j (Pk G N) ((aq j ((aT j ((a8 (k:=λm C H=>k_ G N m (C 3) (C 4) (C 15) (C 16) (C 17) H) j (λC H=>j) (λm=>Pg G N (k_ G N m)))))) (aj _))))) (aj _))) (aj _))) (aj _))) (aj _))) ?_;delta pr;generalize k_ G N N=a;revert a;refine id ?_;intro a;kernel_rfl
def pN(G:ai)(p d:aa)(H:ae):O:=aO H (bo (H).next p) λi c=>ad (ah P c 27 i) λE=>au c (G 38 [E] c) λj k=>ad (al P .neq 73 V j aa.cr) λe=>ao e V k (aM d) λr l=>ao e V l (az (al P .geq 3 V r (I J 0))) λs m=>ad (aN e (D s) (D (Z U))) λa=>ao a V m (aM d) λt n=>ao a V n (az (ak P 27 i 2)) λu f=>ao a V f (qr (ah P f 24 u)) λh g=>ao a V g (λq=>bH (aW P .empty .len [24] [h]) (aW P g .len [24] [h]) q) λv o=>ao a V o (az (al P .lss 3 U t v)) λw b=>ad (aN a (D w) (D (Z U))) λx=>ax (D x) (ad (aL j) λy=>ad (ak P 76 y 3) λz=>ad (ah P b 31 z) λA=>ad (aF P 31 A d) λB=>ad (ah P b 30 B) λC=>D (C,b)) (D (aa.ar,b))
def P7(G:ai)(N:Nat)(a:aa)(b:aa)(H:ae):aD Tryz.f22 G N (aP [a,b]) H=pN G a b H:=by
 refine aS (A:=aD Tryz.f22 G N) (aj _) ?_;delta pN;kernel_rfl
def u3(G:ai)(N:Nat)(o:aa->aa->aa->aa->ae->O)(b k:aa)(n d:aa)(H:ae):O:=ad (ah P H 33 d) λm=>au H (G 80 [m] H) λq i=>aO i (bl P (i).next 198 2 [(0,n),(1,q)]) λs j=>au j (G 79 [s] j) λt e=>ad (ah P e 27 b) λc=>au e (G 78 [c,t] e) λu p=>a7 p [I J 0,aa.ar,aa.ar,aa.ar] λh l=>aB l (aA P l 33 h u) λf=>bif ((aJ (ah P H 33 d) m&&V)&&((aJ (ah P H 27 b) c&&(aJ (ah P i 27 b) c&&(aJ (ah P j 27 b) c&&(aJ (ah P e 27 b) c&&V))))&&V))then(ad (ak P 33 h 1) λv=>ad (ah P f 30 v) λw=>ad (ak P 33 d 1) λx=>ad (ah P f 30 x) λy=>au f (G 81 [w,y] f) λz a=>ax (D z) (ad (ah P a 33 h) λA=>aB a (aA P a 33 k A) λg=>ad (ah P g 33 k) λr=>D (r,g)) (ad (ah P a 33 h) λB=>aB a (aA P a 33 d B) λg=>o b k n d g))else Y
def mc(G:ai)(N:Nat):Nat->aa->aa->aa->aa->ae->O
 |0,_,_,_,_,_=>Y
 |n+1,a,b,c,d,H=>u3 G N (mc G N n) a b c d H
def RH(G:ai)(N:Nat)(a:aa->aa->aa->aa->ae->O):∀C H,aE P G N (an (an (af (af (af (aG Tryz.f36)))))) (λC H=>a (C 1) (C 2) (C 3) (C 4) H) [(0,(ay Tryz.f36))] (ay Tryz.f36) C H=u3 G N a (C 1) (C 2) (C 3) (C 4) H:=by
 refine aH (aj _) λC H=> ?_
 delta u3;kernel_rfl
def qE(G:ai)(N:Nat)(j:aa)(H:ae):O:=aO H (bo (H).next j) λc g=>a7 g [I J 0,aa.ar,aa.ar,aa.ar] λl a=>ad (ah P a 27 c) λm=>au a (G 77 [m] a) λf b=>ad (ah P b 27 c) λn=>au b (G 78 [n,f] b) λk h=>a7 h [I J 0,aa.ar,aa.ar,aa.ar] λe d=>aB d (aA P d 33 e k) λi=>mc G N N c l f e i
def RI(G:ai)(N:Nat)(b:aa)(H:ae):aD Tryz.f36 G N (aP [b]) H=qE G N b H:=by
 refine aS (A:=aD Tryz.f36 G N) ((aq j ((aq j ((aq j ((aT j ((a8 (k:=λm C H=>mc G N m (C 1) (C 2) (C 3) (C 4) H) j (λC H=>j) (λm=>RH G N (mc G N m)))))) (aj _))) (aj _))) (aj _))) ?_;delta qE;generalize mc G N N=a;revert a;refine id ?_;intro a;kernel_rfl
def mf(G:ai)(N:Nat)(a:aa)(H:ae):O:=some (a,H)
def RN(G:ai)(N:Nat):∀C H,aE P G N (af (af (af (af (af (af (af (aG Tryz.f38)))))))) (ay Tryz.f38) [] (ay Tryz.f38) C H=mf G N (C 3) H:=by
 refine aH (aj _) λC H=> ?_
 delta mf;kernel_rfl
def u4(G:ai)(N:Nat)(F:aa->aa->aa->aa->ae->O)(i f:aa)(B j:aa)(H:ae):O:=ad (al P .lss 3 U j B) λL=>ax (D L) (au H (G 44 [f,j] H) λQ b=>ad (ah P b 27 i) λz=>au b (G 85 [z,j] b) λaf a=>ad (ak P 27 i 2) λl=>ad (ah P a 24 l) λm=>ad (aF P 24 m j) λR=>ad (ak P 49 R 0) λn=>ad (ah P a 3 n) λo=>ad (ak P 27 i 2) λp=>ad (ah P a 24 p) λq=>ad (aF P 24 q j) λS=>ad (ak P 49 S 0) λr=>ad (ah P a 3 r) λs=>ad (c1 P 30 Q Y (D o) (D s)) λT=>ad (aL f) λW=>ad (ak P 76 W 1) λab=>ad (ak P 33 ab 2) λv=>ad (ah P a 30 v) λw=>ad (aF P 30 w af) λC=>ad (ah P a 3 C) λE=>aO a (bl P (a).next 30 1 [(0,E)]) λaj e=>au e (bJ P e [30,30] T aj) λam t=>au t (G 47 [f,am] t) λan k=>ad (aL f) λao=>ad (ak P 76 ao 2) λg=>ad (ah P k 30 g) λh=>aO k (bl P (k).next 31 1 [(0,h)]) λap x=>au x (G 46 [an,ap] x) λaq u=>ad (aL f) λM=>ad (ak P 76 M 3) λc=>ad (ah P u 31 c) λd=>aO u (bl P (u).next 31 1 [(0,aq)]) λav y=>au y (bJ P y [31,31] d av) λaw A=>ad (aL f) λay=>ad (ak P 76 ay 3) λaz=>aB A (aA P A 31 az aw) λK=>bif ((aJ (ah P H 27 i) z&&(aJ (ah P b 27 i) z&&V))&&((aJ (ah P H 24 l) m&&(aJ (ah P b 24 l) m&&(aJ (ah P a 24 l) m&&(aJ (ah P e 24 l) m&&V))))&&((aJ (ah P H 3 n) o&&(aJ (ah P b 3 n) o&&(aJ (ah P a 3 n) o&&(aJ (ah P e 3 n) o&&V))))&&((aJ (ah P H 24 p) q&&(aJ (ah P b 24 p) q&&(aJ (ah P a 24 p) q&&(aJ (ah P e 24 p) q&&V))))&&((aJ (ah P H 3 r) s&&(aJ (ah P b 3 r) s&&(aJ (ah P a 3 r) s&&(aJ (ah P e 3 r) s&&V))))&&((aJ (ah P H 30 v) w&&(aJ (ah P b 30 v) w&&(aJ (ah P a 30 v) w&&V)))&&((aJ (ah P a 3 C) E&&V)&&((aJ (ah P H 30 g) h&&(aJ (ah P b 30 g) h&&(aJ (ah P a 30 g) h&&(aJ (ah P e 30 g) h&&(aJ (ah P t 30 g) h&&(aJ (ah P k 30 g) h&&V))))))&&((aJ (ah P H 31 c) d&&(aJ (ah P b 31 c) d&&(aJ (ah P a 31 c) d&&(aJ (ah P e 31 c) d&&(aJ (ah P t 31 c) d&&(aJ (ah P k 31 c) d&&(aJ (ah P x 31 c) d&&(aJ (ah P u 31 c) d&&(aJ (ah P y 31 c) d&&V)))))))))&&V)))))))))then(ad (al P .add 3 V j (I J 1)) λaC=>F i f B aC K)else Y) (mf G N f H)
def mg(G:ai)(N:Nat):Nat->aa->aa->aa->aa->ae->O
 |0,_,_,_,_,_=>Y
 |n+1,a,b,c,d,H=>u4 G N (mg G N n) a b c d H
def RJ(G:ai)(N:Nat)(b:aa->aa->aa->aa->ae->O):∀C H,aE P G N (an (an (af (an (af (af (af (af (af (af (aG Tryz.f38))))))))))) (λC H=>b (C 1) (C 3) (C 43) (C 44) H) [(2,(λC H=>mf G N (C 3) H))] (ay Tryz.f38) C H=u4 G N b (C 1) (C 3) (C 43) (C 44) H:=by
 refine aH (aj _) λC H=> ?_
 delta u4;generalize mf G N=a;revert a;refine id ?_;intro a;kernel_rfl
def me(G:ai)(N:Nat)(d b g:aa)(H:ae):O:=au H (G 47 [b,g] H) λe c=>ad (aL b) λf=>ad (ak P 76 f 2) λh=>aB c (aA P c 30 h e) λa=>ad (ak P 27 d 2) λi=>ad (ah P a 24 i) λj=>aZ P .len [24] [j] a λk=>mg G N N d b k (I J 0) a
def RM(G:ai)(N:Nat):∀C H,aE P G N (af (af (af (af (af (aG Tryz.f38)))))) (ay Tryz.f38) [] (ay Tryz.f38) C H=me G N (C 1) (C 3) (C 4) H:=by
 refine aH ((aq j ((aq j (RN G N) ((aq j ((aT j ((a8 (k:=λm C H=>mg G N m (C 1) (C 3) (C 43) (C 44) H) j (λC H=>j) (λm=>RJ G N (mg G N m)))))) (aj _))))) (aj _))) λC H=> ?_
 delta me;generalize mg G N N=a;revert a;refine id ?_;intro a;kernel_rfl
def u5(G:ai)(N:Nat)(j:aa->aa->aa->aa->aa->ae->O)(b f:aa)(i h c:aa)(H:ae):O:=ad (al P .lss 3 U c h) λl=>ax (D l) (ad (ah P H 27 b) λo=>au H (G 84 [o,c] H) λp a=>ad (aL f) λm=>ad (ak P 76 m 1) λn=>ad (ak P 33 n 2) λd=>ad (ah P a 30 d) λe=>ad (aF P 30 e p) λq=>ad (ah P a 3 q) λr=>aO a (bl P (a).next 30 1 [(0,r)]) λs g=>au g (bJ P g [30,30] i s) λt k=>bif ((aJ (ah P H 30 d) e&&(aJ (ah P a 30 d) e&&V))&&V)then(ad (al P .add 3 V c (I J 1)) λu=>j b f t h u k)else Y) (me G N b f i H)
def mh(G:ai)(N:Nat):Nat->aa->aa->aa->aa->aa->ae->O
 |0,_,_,_,_,_,_=>Y
 |n+1,a,d,e,b,c,H=>u5 G N (mh G N n) a d e b c H
def RK(G:ai)(N:Nat)(b:aa->aa->aa->aa->aa->ae->O):∀C H,aE P G N (an (an (af (an (af (af (af (af (aG Tryz.f38))))))))) (λC H=>b (C 1) (C 3) (C 4) (C 17) (C 18) H) [(0,(λC H=>me G N (C 1) (C 3) (C 4) H))] (ay Tryz.f38) C H=u5 G N b (C 1) (C 3) (C 4) (C 17) (C 18) H:=by
 refine aH (aj _) λC H=> ?_
 delta u5;generalize me G N=a;revert a;refine id ?_;intro a;kernel_rfl
def qF(G:ai)(N:Nat)(g:aa)(H:ae):O:=aO H (bo (H).next g) λa d=>ad (ah P d 27 a) λo=>au d (G 35 [o] d) λp b=>ad (bt .not p) λq=>ax (D q) (D (aa.cr,b)) (ad (ah P b 27 a) λh=>au b (G 36 [h] b) λi c=>ad (ah P c 27 a) λf=>ad (bh P 76 [(0,f),(1,i)]) λj=>aO c (bo (c).next j) λk e=>bif ((aJ (ah P b 27 a) f&&(aJ (ah P c 27 a) f&&V))&&V)then(ad (ak P 27 a 1) λl=>ad (ah P e 23 l) λm=>aZ P .len [23] [m] e λn=>mh G N N a k aa.ar n (I J 0) e)else Y)
def RL(G:ai)(N:Nat)(b:aa)(H:ae):aD Tryz.f38 G N (aP [b]) H=qF G N b H:=by
 refine aS (A:=aD Tryz.f38 G N) ((aq j ((aq j ((aq j ((aq j ((aq j (RM G N) ((aq j ((aT j ((a8 (k:=λm C H=>mh G N m (C 1) (C 3) (C 4) (C 17) (C 18) H) j (λC H=>j) (λm=>RK G N (mh G N m)))))) (aj _))))) (aj _))) (aj _))) (aj _))) (aj _))) ?_;delta qF;generalize mh G N N=a;revert a;refine id ?_;intro a;kernel_rfl
def fa(G:ai)(N:Nat)(a:aa)(H:ae):O:=some (a,H)
def RR(G:ai)(N:Nat):∀C H,aE P G N (af (af (af (aG Tryz.f40)))) (ay Tryz.f40) [] (ay Tryz.f40) C H=fa G N (C 7) H:=by
 refine aH (aj _) λC H=> ?_
 delta fa;kernel_rfl
def fb(G:ai)(N:Nat)(a:aa->aa->aa->aa->aa->aa->aa->ae->O)(b c:aa)(d i:aa)(e f g:aa)(H:ae):O:=ad (al P .add 3 V g (I J 1)) λh=>a b c d i e f h H
def RT(G:ai)(N:Nat)(a:aa->aa->aa->aa->aa->aa->aa->ae->O):∀C H,aE P G N (af (af (af (an (an (af (an (af (af (aG Tryz.f40)))))))))) (λC H=>a (C 0) (C 1) (C 2) (C 7) (C 24) (C 25) (C 26) H) [(0,(λC H=>fa G N (C 7) H))] (ay Tryz.f40) C H=fb G N a (C 0) (C 1) (C 2) (C 7) (C 24) (C 25) (C 26) H:=by
 refine aH (aj _) λC H=> ?_
 delta fb;kernel_rfl
def mi(G:ai)(N:Nat)(m:aa->aa->aa->aa->aa->aa->aa->ae->O)(a:aa->aa->aa->aa->aa->aa->aa->aa->aa->aa->ae->O)(b c:aa)(d l:aa)(e f:aa)(g h:aa)(i j:aa)(H:ae):O:=ad (al P .add 3 V j (I J 1)) λk=>a b c d l e f g h i k H
def RU(G:ai)(N:Nat)(a:aa->aa->aa->aa->aa->aa->aa->ae->O)(b:aa->aa->aa->aa->aa->aa->aa->aa->aa->aa->ae->O):∀C H,aE P G N (af (af (af (an (an (af (af (an (an (af (af (an (an (af (an (af (af (aG Tryz.f40)))))))))))))))))) (λC H=>b (C 0) (C 1) (C 2) (C 7) (C 24) (C 25) (C 26) (C 33) (C 34) (C 35) H) [(2,(λC H=>fb G N a (C 0) (C 1) (C 2) (C 7) (C 24) (C 25) (C 26) H)),(1,(λC H=>fb G N a (C 0) (C 1) (C 2) (C 7) (C 24) (C 25) (C 26) H)),(0,(λC H=>fa G N (C 7) H))] (ay Tryz.f40) C H=mi G N a b (C 0) (C 1) (C 2) (C 7) (C 24) (C 25) (C 26) (C 33) (C 34) (C 35) H:=by
 refine aH (aj _) λC H=> ?_
 delta mi;kernel_rfl
def u7(G:ai)(N:Nat)(f:aa->aa->aa->aa->aa->aa->aa->ae->O)(p:aa->aa->aa->aa->aa->aa->aa->aa->aa->aa->ae->O)(b c:aa)(i e:aa)(j k:aa)(l m:aa)(n d:aa)(H:ae):O:=ad (al P .lss 3 U d n) λw=>ax (D w) (ad (aF P 30 m d) λx=>ad (ah P H 3 x) λo=>ad (aL b) λy=>ad (ak P 76 y 3) λz=>ad (ah P H 31 z) λA=>ad (aF P 31 A c) λB=>ad (ah P H 30 B) λC=>au H (G 94 [C,o] H) λa s=>ao a V s (aM e) λE t=>ao a V t (aM o) λF g=>ao a V g (λq=>bg g (G 94 [E,F] g) q) λK u=>ao a V u (az (bt .not K)) λL h=>ad (aN a (D L) (D (Z U))) λM=>ax (D M) (aO h (bl P (h).next 30 1 [(0,o)]) λQ r=>au r (bJ P r [30,30] e Q) λR v=>mi G N f p b c i R j k l m n d v) (mi G N f p b c i e j k l m n d h)) (fb G N f b c i e j k l H)
def ml(G:ai)(N:Nat)(a:aa->aa->aa->aa->aa->aa->aa->ae->O):Nat->aa->aa->aa->aa->aa->aa->aa->aa->aa->aa->ae->O
 |0,_,_,_,_,_,_,_,_,_,_,_=>Y
 |n+1,b,c,d,k,e,f,g,h,i,j,H=>u7 G N a (ml G N a n) b c d k e f g h i j H
def RP(G:ai)(N:Nat)(a:aa->aa->aa->aa->aa->aa->aa->ae->O)(b:aa->aa->aa->aa->aa->aa->aa->aa->aa->aa->ae->O):∀C H,aE P G N (an (an (af (af (an (an (af (af (an (an (af (an (af (af (aG Tryz.f40))))))))))))))) (λC H=>b (C 0) (C 1) (C 2) (C 7) (C 24) (C 25) (C 26) (C 33) (C 34) (C 35) H) [(2,(λC H=>fb G N a (C 0) (C 1) (C 2) (C 7) (C 24) (C 25) (C 26) H)),(1,(λC H=>fb G N a (C 0) (C 1) (C 2) (C 7) (C 24) (C 25) (C 26) H)),(0,(λC H=>fa G N (C 7) H))] (ay Tryz.f40) C H=u7 G N a b (C 0) (C 1) (C 2) (C 7) (C 24) (C 25) (C 26) (C 33) (C 34) (C 35) H:=by
 refine aH ((aq j ((aq j ((aq j (RU G N a b) (aj _))) (aj _))) (aj _))) λC H=> ?_
 delta u7;generalize fb G N a=c;generalize mi G N a b=d;revert c d;refine id ?_;intro c d;kernel_rfl
def u6(G:ai)(N:Nat)(l:aa->aa->aa->aa->aa->aa->aa->ae->O)(e m:aa)(f j:aa)(g h b:aa)(H:ae):O:=ad (al P .lss 3 U b h) λn=>ax (D n) (ad (aF P 47 g b) λo=>ad (ah P H 89 o) λp=>a7 H [I J 0,I J 0,I J 0,I J 0,I J 0,aa.ar] λk c=>aB c (aA P c 89 k p) λa=>ad (ah P a 89 k) λq=>au a (G 93 [e,q,f] a) λi d=>aZ P .len [30] [i] d λr=>ml G N l N e m f j g h b i r (I J 0) d) (fa G N j H)
def mj(G:ai)(N:Nat):Nat->aa->aa->aa->aa->aa->aa->aa->ae->O
 |0,_,_,_,_,_,_,_,_=>Y
 |n+1,a,b,c,g,d,e,f,H=>u6 G N (mj G N n) a b c g d e f H
def RO(G:ai)(N:Nat)(a:aa->aa->aa->aa->aa->aa->aa->ae->O):∀C H,aE P G N (an (an (af (an (af (af (aG Tryz.f40))))))) (λC H=>a (C 0) (C 1) (C 2) (C 7) (C 24) (C 25) (C 26) H) [(0,(λC H=>fa G N (C 7) H))] (ay Tryz.f40) C H=u6 G N a (C 0) (C 1) (C 2) (C 7) (C 24) (C 25) (C 26) H:=by
 refine aH ((aq j ((aq j ((aq j (RT G N a) ((aT j ((aq j ((aq j ((aT j ((a8 (k:=λm C H=>ml G N a m (C 0) (C 1) (C 2) (C 7) (C 24) (C 25) (C 26) (C 33) (C 34) (C 35) H) j (λC H=>j) (λm=>RP G N a (ml G N a m)))))) (aj _))) (aj _))))))) (aj _))) (aj _))) λC H=> ?_
 delta u6;generalize fa G N=b;generalize ml G N a N=c;revert b c;refine id ?_;intro b c;kernel_rfl
def qH(G:ai)(N:Nat)(b a c:aa)(H:ae):O:=ad (aF P 31 c a) λe=>ad (ah P H 30 e) λf=>ad (aL b) λg=>ad (ak P 76 g 0) λh=>ad (ak P 27 h 2) λi=>ad (ah P H 24 i) λj=>ad (aF P 24 j a) λk=>ad (ak P 49 k 4) λl=>ad (ah P H 47 l) λd=>aZ P .len [47] [d] H λm=>mj G N N b a c f d m (I J 0) H
def RQ(G:ai)(N:Nat)(b:aa)(c:aa)(d:aa)(H:ae):aD Tryz.f40 G N (aP [b,c,d]) H=qH G N b c d H:=by
 refine aS (A:=aD Tryz.f40 G N) ((aq j ((aq j ((aq j (RR G N) ((aq j ((aT j ((a8 (k:=λm C H=>mj G N m (C 0) (C 1) (C 2) (C 7) (C 24) (C 25) (C 26) H) j (λC H=>j) (λm=>RO G N (mj G N m)))))) (aj _))))) (aj _))) (aj _))) ?_;delta qH;generalize mj G N N=a;revert a;refine id ?_;intro a;kernel_rfl
def qL(G:ai)(a c:aa)(H:ae):O:=ad (aL a) λu=>ad (ak P 76 u 0) λv=>ad (ak P 27 v 2) λf=>ad (ah P H 24 f) λg=>ad (aF P 24 g c) λh=>ad (ak P 49 h 1) λi=>ad (ah P H 23 i) λj=>aZ P .len [23] [j] H λd=>ad (al P .eql 3 V d (I J 0)) λk=>ax (D k) (D (aa.ar,H)) (ad (aL a) λl=>ad (ak P 76 l 0) λm=>ad (ah P H 27 m) λn=>au H (G 98 [n,c,I J 0] H) λe b=>ad (aL a) λo=>ad (ak P 76 o 1) λp=>ad (ak P 33 p 2) λq=>ad (ah P b 30 q) λr=>ad (al P .add 3 U e d) λs=>ad (c1 P 30 r (D e) (D s) Y) λt=>D (t,b))
def RY(G:ai)(N:Nat)(a:aa)(b:aa)(H:ae):aD Tryz.f44 G N (aP [a,b]) H=qL G a b H:=by
 refine aS (A:=aD Tryz.f44 G N) (aj _) ?_;delta qL;kernel_rfl
def g8(G:ai)(H:ae):O:=some (aa.ar,H)
def R0(G:ai)(N:Nat):∀C H,aE P G N (af (af (aG Tryz.f45))) (ay Tryz.f45) [] (ay Tryz.f45) C H=g8 G H:=by
 refine aH (aj _) λC H=> ?_
 delta g8;kernel_rfl
def mm(G:ai)(a c:aa)(w x:aa)(H:ae):O:=ax (D x) (ad (aL a) λe=>ad (ak P 76 e 1) λf=>ad (ak P 33 f 1) λg=>ad (ah P H 30 g) λh=>ad (ak P 89 c 4) λi=>ad (ah P H 3 i) λj=>ad (aF P 30 h j) λk=>ad (ah P H 3 k) λl=>aO H (bl P (H).next 30 1 [(0,l)]) λm b=>au b (G 47 [a,m] b) λn d=>D (n,d)) (ad (al P .eql 3 V w (I J 13)) λo=>ax (D o) (ad (aL a) λp=>ad (ak P 76 p 3) λq=>ad (ah P H 31 q) λr=>ad (ak P 89 c 3) λs=>ad (ah P H 3 s) λt=>ad (aF P 31 r t) λu=>ad (ah P H 30 u) λv=>D (v,H)) (g8 G H))
def R1(G:ai)(N:Nat):∀C H,aE P G N (af (an (af (an (af (aG Tryz.f45)))))) (λC H=>g8 G H) [(0,(λC H=>g8 G H))] (ay Tryz.f45) C H=mm G (C 0) (C 3) (C 6) (C 7) H:=by
 refine aH (aj _) λC H=> ?_
 delta mm;generalize g8 G=a;revert a;refine id ?_;intro a;kernel_rfl
def qM(G:ai)(d f:aa)(H:ae):O:=aO H (bo (H).next f) λc b=>ad (ak P 89 c 0) λg=>ad (ah P b 3 g) λa=>ad (al P .eql 3 V a (I J 11)) λe=>ax (D e) (mm G d c a e b) (ad (al P .eql 3 V a (I J 12)) λh=>mm G d c a h b)
def RZ(G:ai)(N:Nat)(b:aa)(c:aa)(H:ae):aD Tryz.f45 G N (aP [b,c]) H=qM G b c H:=by
 refine aS (A:=aD Tryz.f45 G N) ((aq j ((aq j (R0 G N) ((aq j ((aT j ((aq j (R1 G N) (aj _))))) (aj _))))) (aj _))) ?_;delta qM;generalize mm G=a;revert a;refine id ?_;intro a;kernel_rfl
def g9(G:ai)(N:Nat)(a:aa)(H:ae):O:=some (a,H)
def R4(G:ai)(N:Nat):∀C H,aE P G N (af (af (af (aG Tryz.f46)))) (ay Tryz.f46) [] (ay Tryz.f46) C H=g9 G N (C 5) H:=by
 refine aH (aj _) λC H=> ?_
 delta g9;kernel_rfl
def mo(G:ai)(N:Nat)(a:aa->aa->aa->aa->aa->ae->O)(b e:aa)(f g c:aa)(H:ae):O:=ad (al P .add 3 V c (I J 1)) λd=>a b e f g d H
def R5(G:ai)(N:Nat)(a:aa->aa->aa->aa->aa->ae->O):∀C H,aE P G N (af (af (af (an (an (af (an (af (af (aG Tryz.f46)))))))))) (λC H=>a (C 1) (C 5) (C 8) (C 9) (C 10) H) [(0,(λC H=>g9 G N (C 5) H))] (ay Tryz.f46) C H=mo G N a (C 1) (C 5) (C 8) (C 9) (C 10) H:=by
 refine aH (aj _) λC H=> ?_
 delta mo;kernel_rfl
def u9(G:ai)(N:Nat)(h:aa->aa->aa->aa->aa->ae->O)(c d:aa)(f g b:aa)(H:ae):O:=ad (al P .lss 3 U b g) λm=>ax (D m) (ad (aF P 30 f b) λn=>ad (ah P H 3 n) λo=>a7 H [I J 0] λe i=>aB i (aA P i 3 e o) λj=>au j (G 99 [c,(.func (.func 100) [] [e])] j) λp a=>ad (bt .not p) λq=>ax (D q) (ad (ah P a 3 e) λr=>aO a (bl P (a).next 30 1 [(0,r)]) λs k=>au k (bJ P k [30,30] d s) λt l=>mo G N h c t f g b l) (mo G N h c d f g b a)) (g9 G N d H)
def mq(G:ai)(N:Nat):Nat->aa->aa->aa->aa->aa->ae->O
 |0,_,_,_,_,_,_=>Y
 |n+1,a,c,d,e,b,H=>u9 G N (mq G N n) a c d e b H
def R2(G:ai)(N:Nat)(a:aa->aa->aa->aa->aa->ae->O):∀C H,aE P G N (an (an (af (an (af (af (aG Tryz.f46))))))) (λC H=>a (C 1) (C 5) (C 8) (C 9) (C 10) H) [(0,(λC H=>g9 G N (C 5) H))] (ay Tryz.f46) C H=u9 G N a (C 1) (C 5) (C 8) (C 9) (C 10) H:=by
 refine aH ((aq j ((aq j ((aq j (R5 G N a) (aj _))) (aj _))) (aj _))) λC H=> ?_
 delta u9;generalize g9 G N=b;generalize mo G N a=c;revert b c;refine id ?_;intro b c;kernel_rfl
def qN(G:ai)(N:Nat)(a b:aa)(H:ae):O:=aZ P .len [30] [a] H λc=>mq G N N b aa.ar a c (I J 0) H
def R3(G:ai)(N:Nat)(b:aa)(c:aa)(H:ae):aD Tryz.f46 G N (aP [b,c]) H=qN G N b c H:=by
 refine aS (A:=aD Tryz.f46 G N) ((aq j ((aq j ((aq j (R4 G N) ((aq j ((aT j ((a8 (k:=λm C H=>mq G N m (C 1) (C 5) (C 8) (C 9) (C 10) H) j (λC H=>j) (λm=>R2 G N (mq G N m)))))) (aj _))))) (aj _))) (aj _))) ?_;delta qN;generalize mq G N N=a;revert a;refine id ?_;intro a;kernel_rfl
def qO(G:ai)(b c:aa)(H:ae):O:=ad (aL b) λe=>ad (ak P 76 e 1) λf=>ad (ak P 33 f 3) λg=>ad (ah P H 31 g) λh=>au H (G 101 [h,c] H) λd a=>D (d,a)
def R6(G:ai)(N:Nat)(a:aa)(b:aa)(H:ae):aD Tryz.f47 G N (aP [a,b]) H=qO G a b H:=by
 refine aS (A:=aD Tryz.f47 G N) (aj _) ?_;delta qO;kernel_rfl
def q_(G:ai)(A o:aa)(H:ae):O:=aO H (bo (H).next A) λi x=>a7 x [I J 0,aa.ar,aa.ar,aa.ar] λv b=>ad (ah P b 27 i) λp=>au b (G 131 [p] b) λq a=>ad (ak P 27 i 3) λh=>ad (ah P a 25 h) λe=>bH (aW P .empty .len [25] [e]) (aW P a .len [25] [e]) λd=>au (d.heap a) (G 130 [q,d.val,I J 8,o] (d.heap a)) λf l=>ad (bG f 0) λs=>a7 l [aa.ar,aa.ar] λj m=>ed m (aA P m 154 j s) λy c=>ad (bG f 1) λt=>bif b3 [0,1,0,4,12,0,63,127,255,255,0,1535,4095] [11,12] [⟨0,.read p,λH=>ah P H 27 i⟩,⟨1,.br q a,λH=>Y⟩,⟨2,.pure h,λH=>Y⟩,⟨3,.read e,λH=>ah P H 25 h⟩,⟨4,d,λH=>aW P H .len [25] [e]⟩,⟨5,.pure o,λH=>Y⟩,⟨6,.br f l,λH=>Y⟩,⟨7,.pure f,λH=>Y⟩,⟨8,.pure s,λH=>Y⟩,⟨10,(.new j (.row U (List.length [aa.ar,aa.ar]) [[aa.ar,aa.ar]])),λH=>Y⟩,⟨11,.br y c,λH=>Y⟩,⟨9,.pure t,λH=>Y⟩,⟨12,.pure t,λH=>Y⟩] b then(ad (ah P c 154 j) λB=>au c (G 132 [B] c) λu z=>ad (bG u 0) λC=>ad (bG u 1) λF=>a7 z [I J 0,aa.ar,aa.ar,aa.ar] λw n=>aB n (aA P n 33 w C) λg=>ad (ah P g 33 w) λE=>aB g (aA P g 33 v E) λk=>ad (ah P k 33 v) λr=>D (r,k))else Y
def S2(G:ai)(N:Nat)(a:aa)(b:aa)(H:ae):aD Tryz.f78 G N (aP [a,b]) H=q_ G a b H:=by
 refine aS (A:=aD Tryz.f78 G N) (aj _) ?_;delta q_;kernel_rfl
def mY(G:ai)(N:Nat)(a:aa)(H:ae):O:=some (a,H)
def Ta(G:ai)(N:Nat):∀C H,aE P G N (af (af (af (aG Tryz.f80)))) (ay Tryz.f80) [] (ay Tryz.f80) C H=mY G N (C 3) H:=by
 refine aH (aj _) λC H=> ?_
 delta mY;kernel_rfl
def vr(G:ai)(N:Nat)(h:aa->aa->aa->aa->aa->ae->O)(d e:aa)(f g a:aa)(H:ae):O:=ad (al P .lss 3 U a g) λj=>ax (D j) (ad (aF P 30 f a) λk=>ad (ah P H 3 k) λl=>ad (ak P 33 d 1) λm=>ad (ah P H 30 m) λn=>au H (G 134 [n,l] H) λo b=>ad (bh P 56 [(0,(I J 5)),(1,a),(2,o)]) λp=>aO b (bl P (b).next 53 1 [(0,p)]) λq c=>au c (bJ P c [53,53] e q) λr i=>ad (al P .add 3 V a (I J 1)) λs=>h d r f g s i) (mY G N e H)
def mZ(G:ai)(N:Nat):Nat->aa->aa->aa->aa->aa->ae->O
 |0,_,_,_,_,_,_=>Y
 |n+1,a,b,c,d,e,H=>vr G N (mZ G N n) a b c d e H
def S9(G:ai)(N:Nat)(b:aa->aa->aa->aa->aa->ae->O):∀C H,aE P G N (an (an (af (an (af (af (aG Tryz.f80))))))) (λC H=>b (C 1) (C 3) (C 7) (C 8) (C 9) H) [(0,(λC H=>mY G N (C 3) H))] (ay Tryz.f80) C H=vr G N b (C 1) (C 3) (C 7) (C 8) (C 9) H:=by
 refine aH (aj _) λC H=> ?_
 delta vr;generalize mY G N=a;revert a;refine id ?_;intro a;kernel_rfl
def rb(G:ai)(N:Nat)(d:aa)(H:ae):O:=aO H (bo (H).next d) λb a=>ad (ak P 33 b 1) λe=>ad (ah P a 30 e) λc=>aZ P .len [30] [c] a λf=>mZ G N N b aa.ar c f (I J 0) a
def S_(G:ai)(N:Nat)(b:aa)(H:ae):aD Tryz.f80 G N (aP [b]) H=rb G N b H:=by
 refine aS (A:=aD Tryz.f80 G N) ((aq j ((aq j ((aq j (Ta G N) ((aq j ((aT j ((a8 (k:=λm C H=>mZ G N m (C 1) (C 3) (C 7) (C 8) (C 9) H) j (λC H=>j) (λm=>S9 G N (mZ G N m)))))) (aj _))))) (aj _))) (aj _))) ?_;delta rb;generalize mZ G N N=a;revert a;refine id ?_;intro a;kernel_rfl
def hf(G:ai)(H:ae):O:=some (aa.ar,H)
def Th(G:ai)(N:Nat):∀C H,aE P G N (af (af (aG Tryz.f93))) (ay Tryz.f93) [] (ay Tryz.f93) C H=hf G H:=by
 refine aH (aj _) λC H=> ?_
 delta hf;kernel_rfl
def m2(G:ai)(c k:aa)(a s t:aa)(H:ae):O:=ax (D t) (ad (aL c) λd=>ad (ak P 76 d 1) λe=>ad (ak P 33 e 1) λf=>ad (ah P H 30 f) λg=>ad (ak P 89 a 4) λh=>ad (ah P H 3 h) λi=>ad (aF P 30 g i) λj=>ad (ah P H 3 j) λl=>aO H (bl P (H).next 30 1 [(0,l)]) λm b=>D (m,b)) (ad (al P .eql 3 V s (I J 13)) λn=>ax (D n) (ad (ak P 89 a 3) λo=>ad (ah P H 3 o) λp=>ad (aF P 31 k p) λq=>ad (ah P H 30 q) λr=>D (r,H)) (hf G H))
def Ti(G:ai)(N:Nat):∀C H,aE P G N (af (an (af (an (af (aG Tryz.f93)))))) (λC H=>hf G H) [(0,(λC H=>hf G H))] (ay Tryz.f93) C H=m2 G (C 0) (C 2) (C 4) (C 8) (C 9) H:=by
 refine aH (aj _) λC H=> ?_
 delta m2;generalize hf G=a;revert a;refine id ?_;intro a;kernel_rfl
def ri(G:ai)(d g f:aa)(H:ae):O:=aO H (bo (H).next g) λc b=>ad (ak P 89 c 0) λi=>ad (ah P b 3 i) λa=>ad (al P .eql 3 V a (I J 11)) λe=>ax (D e) (m2 G d f c a e b) (ad (al P .eql 3 V a (I J 12)) λh=>m2 G d f c a h b)
def Tg(G:ai)(N:Nat)(b:aa)(c:aa)(d:aa)(H:ae):aD Tryz.f93 G N (aP [b,c,d]) H=ri G b c d H:=by
 refine aS (A:=aD Tryz.f93 G N) ((aq j ((aq j (Th G N) ((aq j ((aT j ((aq j (Ti G N) (aj _))))) (aj _))))) (aj _))) ?_;delta ri;generalize m2 G=a;revert a;refine id ?_;intro a;kernel_rfl
def nT(G:ai)(b c:aa)(H:ae):O:=ad (ah P H 3 c) λd=>au H (G 94 [b,d] H) λe a=>D (e,a)
def J_(G:ai)(N:Nat)(a:aa)(b:aa)(H:ae):aD Tryz.f100 G N (aP [a,b]) H=nT G a b H:=by
 refine aS (A:=aD Tryz.f100 G N) (aj _) ?_;delta nT;kernel_rfl
end
end
section
set_option maxRecDepth 100000
noncomputable section
def jg(G:ai)(N:Nat)(H:ae):O:=some ((Z V),H)
def LR(G:ai)(N:Nat):∀C H,aE P G N (af (af (af (aG Tryz.f13)))) (ay Tryz.f13) [] (ay Tryz.f13) C H=jg G N H:=by
 refine aH (aj _) λC H=> ?_
 delta jg;kernel_rfl
def tx(G:ai)(N:Nat)(d:aa->aa->aa->ae->O)(b c a:aa)(H:ae):O:=aZ P .len [30] [b] H λe=>ad (al P .lss 3 U a e) λf=>ax (D f) (ad (aF P 30 b a) λh=>ad (ah P H 3 h) λi=>ad (aF P 30 c a) λj=>ad (ah P H 3 j) λk=>ad (al P .neq 3 U i k) λl=>ax (D l) (D ((Z U),H)) (ad (al P .add 3 V a (I J 1)) λg=>d b c g H)) (jg G N H)
def jh(G:ai)(N:Nat):Nat->aa->aa->aa->ae->O
 |0,_,_,_,_=>Y
 |n+1,a,b,c,H=>tx G N (jh G N n) a b c H
def LP(G:ai)(N:Nat)(b:aa->aa->aa->ae->O):∀C H,aE P G N (an (an (af (an (af (af (aG Tryz.f13))))))) (λC H=>b (C 0) (C 1) (C 5) H) [(0,(λC H=>jg G N H))] (ay Tryz.f13) C H=tx G N b (C 0) (C 1) (C 5) H:=by
 refine aH (aj _) λC H=> ?_
 delta tx;generalize jg G N=a;revert a;refine id ?_;intro a;kernel_rfl
def gS(G:ai)(N:Nat)(a b:aa)(H:ae):O:=aZ P .len [30] [a] H λd=>aZ P .len [30] [b] H λe=>ad (al P .neq 3 U d e) λc=>ax (D c) (D ((Z U),H)) (jh G N N a b (I J 0) H)
def LQ(G:ai)(N:Nat)(b:aa)(c:aa)(H:ae):aD Tryz.f13 G N (aP [b,c]) H=gS G N b c H:=by
 refine aS (A:=aD Tryz.f13 G N) ((aq j ((aq j ((aq j (LR G N) ((aq j ((aT j ((a8 (k:=λm C H=>jh G N m (C 0) (C 1) (C 5) H) j (λC H=>j) (λm=>LP G N (jh G N m)))))) (aj _))))) (aj _))) (aj _))) ?_;delta gS;generalize jh G N N=a;revert a;refine id ?_;intro a;kernel_rfl
def j5(G:ai)(N:Nat)(H:ae):O:=some ((Z V),H)
def Nq(G:ai)(N:Nat):∀C H,aE P G N (af (af (af (aG Tryz.f17)))) (ay Tryz.f17) [] (ay Tryz.f17) C H=j5 G N H:=by
 refine aH (aj _) λC H=> ?_
 delta j5;kernel_rfl
def tQ(G:ai)(N:Nat)(e:aa->aa->aa->ae->O)(b d a:aa)(H:ae):O:=aZ P .len [31] [b] H λf=>ad (al P .lss 3 U a f) λg=>ax (D g) (ad (aF P 31 b a) λi=>ad (ah P H 30 i) λj=>ad (aF P 31 d a) λk=>ad (ah P H 30 k) λl=>au H (G 13 [j,l] H) λm c=>ad (bt .not m) λn=>ax (D n) (D ((Z U),c)) (ad (al P .add 3 V a (I J 1)) λh=>e b d h c)) (j5 G N H)
def j6(G:ai)(N:Nat):Nat->aa->aa->aa->ae->O
 |0,_,_,_,_=>Y
 |n+1,a,b,c,H=>tQ G N (j6 G N n) a b c H
def No(G:ai)(N:Nat)(b:aa->aa->aa->ae->O):∀C H,aE P G N (an (an (af (an (af (af (aG Tryz.f17))))))) (λC H=>b (C 0) (C 1) (C 5) H) [(0,(λC H=>j5 G N H))] (ay Tryz.f17) C H=tQ G N b (C 0) (C 1) (C 5) H:=by
 refine aH (aj _) λC H=> ?_
 delta tQ;generalize j5 G N=a;revert a;refine id ?_;intro a;kernel_rfl
def gW(G:ai)(N:Nat)(a b:aa)(H:ae):O:=aZ P .len [31] [a] H λd=>aZ P .len [31] [b] H λe=>ad (al P .neq 3 U d e) λc=>ax (D c) (D ((Z U),H)) (j6 G N N a b (I J 0) H)
def Np(G:ai)(N:Nat)(b:aa)(c:aa)(H:ae):aD Tryz.f17 G N (aP [b,c]) H=gW G N b c H:=by
 refine aS (A:=aD Tryz.f17 G N) ((aq j ((aq j ((aq j (Nq G N) ((aq j ((aT j ((a8 (k:=λm C H=>j6 G N m (C 0) (C 1) (C 5) H) j (λC H=>j) (λm=>No G N (j6 G N m)))))) (aj _))))) (aj _))) (aj _))) ?_;delta gW;generalize j6 G N N=a;revert a;refine id ?_;intro a;kernel_rfl
