/-
  Texts of one proof, laid together: ShH.
-/
import Derived.Test.YtolnciihfbifcaaGreatME
set_option linter.unusedVariables false
set_option linter.unusedSimpArgs false
set_option linter.defProp false
open Option renaming some→D,none→Y
open Bool renaming true→V,false→U
open Go.cV.aa renaming int→I,bool→Z
open Go.IntKind renaming i64→J
namespace Go.Proofs.YtolnciihfbifcaaGreat
open Go.cV
set_option maxRecDepth 100000
noncomputable section
def CT(G:ai)(h:aa)(H:af):O:=aK H (bl (H).next h) λf g=>ba g [I J 0,aa.ao,aa.ao,aa.ao] λc d=>ad (ah P d 27 f) λi=>aw d (G 75 [i] d) λj a=>ad (bu .not j) λk=>ay (D k) (aF a (aC P a 39 c (.agg [I J 0,aa.ao,aa.ao,aa.ao])) λb=>ad (ah P b 39 c) λr=>D (r,b)) (ad (ah P a 27 f) λl=>aw a (G 132 [l] a) λm b=>aF b (aC P b 39 c m) λe=>ad (ah P e 39 c) λr=>D (r,e))
def aqg(G:ai)(N:Nat)(a:aa)(H:af):aB Tryz.f76 G N (aO [a]) H=CT G a H:=by
 refine aT (A:=aB Tryz.f76 G N) (aj _) ?_;delta CT;kernel_rfl
def w1(G:ai)(N:Nat)(a:aa)(H:af):O:=some (a,H)
def aqm(G:ai)(N:Nat):∀C H,aD P G N (ae (ae (ae (ae (ae (ae (aG Tryz.f77))))))) (ax Tryz.f77) [] (ax Tryz.f77) C H=w1 G N (C 4) H:=by
 refine aI (aj _) λC H=> ?_
 delta w1;kernel_rfl
def HY(G:ai)(N:Nat)(f:aa->aa->aa->af->O)(a e b:aa)(H:af):O:=ad (al P .lss 3 U b e) λh=>ay (D h) (ad (aH P 30 a b) λi=>ad (ah P H 35 i) λj=>aw H (G 109 [j] H) λk c=>aw c (G 108 [k] c) λl d=>ad (aH P 30 a b) λm=>aF d (aC P d 35 m l) λg=>ad (al P .add 3 V b (I J 1)) λn=>f a e n g) (w1 G N a H)
def w3(G:ai)(N:Nat):Nat->aa->aa->aa->af->O
 |0,_,_,_,_=>Y
 |n+1,a,b,c,H=>HY G N (w3 G N n) a b c H
def aqh(G:ai)(N:Nat)(b:aa->aa->aa->af->O):∀C H,aD P G N (aq (aq (ae (aq (ae (ae (ae (ae (ae (aG Tryz.f77)))))))))) (λC H=>b (C 4) (C 41) (C 42) H) [(4,(λC H=>w1 G N (C 4) H))] (ax Tryz.f77) C H=HY G N b (C 4) (C 41) (C 42) H:=by
 refine aI (aj _) λC H=> ?_
 delta HY;generalize w1 G N=a;revert a;refine id ?_;intro a;kernel_rfl
def nq(G:ai)(N:Nat)(a:aa)(H:af):O:=a1 P .len [30] [a] H λb=>w3 G N N a b (I J 0) H
def aql(G:ai)(N:Nat):∀C H,aD P G N (ae (ae (ae (ae (ae (aG Tryz.f77)))))) (ax Tryz.f77) [] (ax Tryz.f77) C H=nq G N (C 4) H:=by
 refine aI ((ar j (aqm G N) ((ar j ((aX j ((a_ (k:=λm C H=>w3 G N m (C 4) (C 41) (C 42) H) j (λC H=>j) (λm=>aqh G N (w3 G N m)))))) (aj _))))) λC H=> ?_
 delta nq;generalize w3 G N N=a;revert a;refine id ?_;intro a;kernel_rfl
def w2(G:ai)(N:Nat)(h:aa->aa->aa->af->O)(a:aa->aa->aa->aa->aa->af->O)(d f:aa)(g b c:aa)(H:af):O:=ad (al P .add 3 V c (I J 1)) λe=>a d f g b e H
def aqn(G:ai)(N:Nat)(a:aa->aa->aa->af->O)(b:aa->aa->aa->aa->aa->af->O):∀C H,aD P G N (ae (ae (ae (aq (aq (ae (ae (aq (ae (aq (aq (ae (aq (ae (ae (ae (ae (aG Tryz.f77)))))))))))))))))) (λC H=>b (C 3) (C 4) (C 5) (C 19) (C 20) H) [(2,(λC H=>a (C 3) (C 4) (C 5) H)),(1,(λC H=>a (C 3) (C 4) (C 5) H)),(0,(λC H=>nq G N (C 4) H))] (ax Tryz.f77) C H=w2 G N a b (C 3) (C 4) (C 5) (C 19) (C 20) H:=by
 refine aI (aj _) λC H=> ?_
 delta w2;kernel_rfl
def H0(G:ai)(N:Nat)(e:aa->aa->aa->af->O)(g:aa->aa->aa->aa->aa->af->O)(d c:aa)(i f b:aa)(H:af):O:=ad (al P .lss 3 U b f) λk=>ay (D k) (aw H (G 134 [d,b,c] H) λh a=>a1 P .len [35] [h] a λl=>ad (aH P 30 c b) λm=>ad (ah P a 35 m) λn=>a1 P .len [35] [n] a λo=>ad (al P .gtr 3 U l o) λp=>ay (D p) (ad (aH P 30 c b) λq=>aF a (aC P a 35 q h) λj=>w2 G N e g d c (Z V) f b j) (w2 G N e g d c i f b a)) (e d c i H)
def w5(G:ai)(N:Nat)(a:aa->aa->aa->af->O):Nat->aa->aa->aa->aa->aa->af->O
 |0,_,_,_,_,_,_=>Y
 |n+1,d,e,f,b,c,H=>H0 G N a (w5 G N a n) d e f b c H
def aqj(G:ai)(N:Nat)(a:aa->aa->aa->af->O)(b:aa->aa->aa->aa->aa->af->O):∀C H,aD P G N (aq (aq (ae (ae (aq (ae (aq (aq (ae (aq (ae (ae (ae (ae (aG Tryz.f77))))))))))))))) (λC H=>b (C 3) (C 4) (C 5) (C 19) (C 20) H) [(2,(λC H=>a (C 3) (C 4) (C 5) H)),(1,(λC H=>a (C 3) (C 4) (C 5) H)),(0,(λC H=>nq G N (C 4) H))] (ax Tryz.f77) C H=H0 G N a b (C 3) (C 4) (C 5) (C 19) (C 20) H:=by
 refine aI ((ar j ((ar j ((ar j (aqn G N a b) (aj _))) (aj _))) (aj _))) λC H=> ?_
 delta H0;generalize a=c;generalize w2 G N a b=d;revert c d;refine id ?_;intro c d;kernel_rfl
def HZ(G:ai)(N:Nat)(b:aa->aa->aa->af->O)(d a e:aa)(H:af):O:=ay (D e) (a1 P .len [30] [a] H λc=>w5 G N b N d a (Z U) c (I J 0) H) (nq G N a H)
def w4(G:ai)(N:Nat):Nat->aa->aa->aa->af->O
 |0,_,_,_,_=>Y
 |n+1,a,b,c,H=>HZ G N (w4 G N n) a b c H
def aqi(G:ai)(N:Nat)(a:aa->aa->aa->af->O):∀C H,aD P G N (aq (aq (ae (aq (ae (ae (ae (ae (aG Tryz.f77))))))))) (λC H=>a (C 3) (C 4) (C 5) H) [(0,(λC H=>nq G N (C 4) H))] (ax Tryz.f77) C H=HZ G N a (C 3) (C 4) (C 5) H:=by
 refine aI ((ar j ((aX j ((ar j ((ar j ((aX j ((a_ (k:=λm C H=>w5 G N a m (C 3) (C 4) (C 5) (C 19) (C 20) H) j (λC H=>j) (λm=>aqj G N a (w5 G N a m)))))) (aj _))) (aj _))))) (aj _))) λC H=> ?_
 delta HZ;generalize nq G N=b;generalize w5 G N a N=c;revert b c;refine id ?_;intro b c;kernel_rfl
def wZ(G:ai)(N:Nat)(g:aa)(H:af):O:=aK H (bl (H).next g) λc b=>ad (ah P b 27 c) λl=>aw b (G 133 [l] b) λd a=>ad (al P .eql 209 V d aa.fC) λh=>ay (D h) (D (aa.ao,a)) (ad (ak P 27 c 2) λi=>ad (ah P a 24 i) λj=>a1 P .len [24] [j] a λe=>aK a (fP (gu P ⟨.leaf,(a).next⟩ 30 e e) (a).next) λk f=>w4 G N N d k (Z V) f)
def aqk(G:ai)(N:Nat)(b:aa)(H:af):aB Tryz.f77 G N (aO [b]) H=wZ G N b H:=by
 refine aT (A:=aB Tryz.f77 G N) ((ar j ((ar j ((ar j ((ar j ((ar j (aql G N) ((ar j ((aX j ((a_ (k:=λm C H=>w4 G N m (C 3) (C 4) (C 5) H) j (λC H=>j) (λm=>aqi G N (w4 G N m)))))) (aj _))))) (aj _))) (aj _))) (aj _))) (aj _))) ?_;delta wZ;generalize w4 G N N=a;revert a;refine id ?_;intro a;kernel_rfl
def mu(G:ai)(N:Nat)(a:aa)(H:af):O:=some (a,H)
def aqr(G:ai)(N:Nat):∀C H,aD P G N (ae (ae (ae (ae (ae (aG Tryz.f78)))))) (ax Tryz.f78) [] (ax Tryz.f78) C H=mu G N (C 4) H:=by
 refine aI (aj _) λC H=> ?_
 delta mu;kernel_rfl
def nr(G:ai)(N:Nat)(a:aa->aa->aa->aa->aa->af->O)(e f:aa)(b c d:aa)(H:af):O:=ad (al P .add 3 V d (I J 1)) λg=>a e f b c g H
def aqs(G:ai)(N:Nat)(a:aa->aa->aa->aa->aa->af->O):∀C H,aD P G N (ae (ae (ae (aq (aq (ae (aq (ae (ae (ae (ae (aG Tryz.f78)))))))))))) (λC H=>a (C 3) (C 4) (C 15) (C 16) (C 17) H) [(0,(λC H=>mu G N (C 4) H))] (ax Tryz.f78) C H=nr G N a (C 3) (C 4) (C 15) (C 16) (C 17) H:=by
 refine aI (aj _) λC H=> ?_
 delta nr;kernel_rfl
def w6(G:ai)(N:Nat)(l:aa->aa->aa->aa->aa->af->O)(b q:aa)(u z:aa)(n o p:aa)(H:af):O:=aw H (G 138 [b,z] H) λr a=>ad (aL b) λs=>ad (ak P 215 s 2) λc=>ad (ah P a 35 c) λd=>ad (aL b) λt=>ad (ak P 215 t 3) λe=>ad (ah P a 30 e) λf=>ad (aH P 30 f u) λg=>ad (ah P a 35 g) λh=>aK a (bd P (a).next 30 2 [(0,d),(1,h)]) λv i=>aw i (G 137 [r,v] i) λw j=>aK j (bd P (j).next 30 1 [(0,w)]) λx k=>aw k (bx P k [30,30] q x) λy m=>bif ((aJ (ah P H 35 c) d&&(aJ (ah P a 35 c) d&&V))&&((aJ (ah P H 30 e) f&&(aJ (ah P a 30 e) f&&V))&&((aJ (ah P H 35 g) h&&(aJ (ah P a 35 g) h&&V))&&V)))then(nr G N l b y n o p m)else Y
def aqt(G:ai)(N:Nat)(a:aa->aa->aa->aa->aa->af->O):∀C H,aD P G N (ae (ae (ae (aq (aq (ae (ae (aq (aq (ae (aq (ae (ae (ae (ae (aG Tryz.f78)))))))))))))))) (λC H=>nr G N a (C 3) (C 4) (C 15) (C 16) (C 17) H) [(1,(λC H=>nr G N a (C 3) (C 4) (C 15) (C 16) (C 17) H)),(0,(λC H=>mu G N (C 4) H))] (ax Tryz.f78) C H=w6 G N a (C 3) (C 4) (C 5) (C 7) (C 15) (C 16) (C 17) H:=by
 refine aI (aj _) λC H=> ?_
 delta w6;generalize nr G N a=b;revert b;refine id ?_;intro b;kernel_rfl
def H3(G:ai)(N:Nat)(o:aa->aa->aa->aa->aa->af->O)(p:aa->aa->aa->aa->aa->aa->aa->aa->aa->aa->af->O)(c k:aa)(l m:aa)(f g:aa)(h i:aa)(j b:aa)(H:af):O:=ad (al P .lss 3 U b j) λr=>ay (D r) (ad (aH P 44 i b) λs=>ad (ah P H 75 s) λt=>ba H [I J 0,I J 0,I J 0,I J 0,I J 0,aa.ao] λn d=>aF d (aC P d 75 n t) λa=>ad (ah P a 75 n) λu=>aw a (G 136 [c,u] a) λv e=>aw e (bx P e [35,35] m v) λw q=>ad (al P .add 3 V b (I J 1)) λx=>p c k l w f g h i j x q) (w6 G N o c k l m f g h H)
def w8(G:ai)(N:Nat)(a:aa->aa->aa->aa->aa->af->O):Nat->aa->aa->aa->aa->aa->aa->aa->aa->aa->aa->af->O
 |0,_,_,_,_,_,_,_,_,_,_,_=>Y
 |n+1,h,i,j,k,b,c,d,e,f,g,H=>H3 G N a (w8 G N a n) h i j k b c d e f g H
def aqp(G:ai)(N:Nat)(a:aa->aa->aa->aa->aa->af->O)(c:aa->aa->aa->aa->aa->aa->aa->aa->aa->aa->af->O):∀C H,aD P G N (aq (aq (ae (aq (ae (ae (aq (aq (ae (ae (aq (aq (ae (aq (ae (ae (ae (ae (aG Tryz.f78))))))))))))))))))) (λC H=>c (C 3) (C 4) (C 5) (C 7) (C 15) (C 16) (C 17) (C 27) (C 28) (C 29) H) [(2,(λC H=>w6 G N a (C 3) (C 4) (C 5) (C 7) (C 15) (C 16) (C 17) H)),(1,(λC H=>nr G N a (C 3) (C 4) (C 15) (C 16) (C 17) H)),(0,(λC H=>mu G N (C 4) H))] (ax Tryz.f78) C H=H3 G N a c (C 3) (C 4) (C 5) (C 7) (C 15) (C 16) (C 17) (C 27) (C 28) (C 29) H:=by
 refine aI (aj _) λC H=> ?_
 delta H3;generalize w6 G N a=b;revert b;refine id ?_;intro b;kernel_rfl
def H2(G:ai)(N:Nat)(l:aa->aa->aa->aa->aa->af->O)(i j:aa)(f g a:aa)(H:af):O:=ad (al P .lss 3 U a g) λm=>ay (D m) (ad (aH P 24 f a) λn=>ad (ah P H 46 n) λo=>ba H [I J 0,aa.ao,Z U,I J 0,I J 0,I J 0,aa.ao] λk c=>aF c (aC P c 46 k o) λd=>aw d (G 135 [i,a] d) λp e=>aw e (G 104 [p] e) λq b=>ad (ak P 46 k 4) λr=>ad (ah P b 44 r) λh=>a1 P .len [44] [h] b λs=>w8 G N l N i j a q f g a h s (I J 0) b) (mu G N j H)
def w7(G:ai)(N:Nat):Nat->aa->aa->aa->aa->aa->af->O
 |0,_,_,_,_,_,_=>Y
 |n+1,d,e,a,b,c,H=>H2 G N (w7 G N n) d e a b c H
def aqo(G:ai)(N:Nat)(a:aa->aa->aa->aa->aa->af->O):∀C H,aD P G N (aq (aq (ae (aq (ae (ae (ae (ae (aG Tryz.f78))))))))) (λC H=>a (C 3) (C 4) (C 15) (C 16) (C 17) H) [(0,(λC H=>mu G N (C 4) H))] (ax Tryz.f78) C H=H2 G N a (C 3) (C 4) (C 15) (C 16) (C 17) H:=by
 refine aI ((ar j ((ar j ((ar j (aqs G N a) ((aX j ((ar j ((ar j ((ar j (aqt G N a) ((ar j ((aX j ((a_ (k:=λm C H=>w8 G N a m (C 3) (C 4) (C 5) (C 7) (C 15) (C 16) (C 17) (C 27) (C 28) (C 29) H) j (λC H=>j) (λm=>aqp G N a (w8 G N a m)))))) (aj _))))) (aj _))) (aj _))))))) (aj _))) (aj _))) λC H=> ?_
 delta H2;generalize mu G N=b;generalize w8 G N a N=c;revert b c;refine id ?_;intro b c;kernel_rfl
def CU(G:ai)(N:Nat)(f:aa)(H:af):O:=aK H (bl (H).next f) λc b=>ad (ah P b 27 c) λg=>aw b (G 133 [g] b) λd a=>ad (al P .eql 209 V d aa.fC) λh=>ay (D h) (D (aa.ao,a)) (ad (ak P 27 c 2) λi=>ad (ah P a 24 i) λe=>a1 P .len [24] [e] a λj=>w7 G N N d aa.ao e j (I J 0) a)
def aqq(G:ai)(N:Nat)(b:aa)(H:af):aB Tryz.f78 G N (aO [b]) H=CU G N b H:=by
 refine aT (A:=aB Tryz.f78 G N) ((ar j ((ar j ((ar j ((ar j ((ar j (aqr G N) ((ar j ((aX j ((a_ (k:=λm C H=>w7 G N m (C 3) (C 4) (C 15) (C 16) (C 17) H) j (λC H=>j) (λm=>aqo G N (w7 G N m)))))) (aj _))))) (aj _))) (aj _))) (aj _))) (aj _))) ?_;delta CU;generalize w7 G N N=a;revert a;refine id ?_;intro a;kernel_rfl
def Ad(G:ai)(p d:aa)(H:af):O:=aK H (bl (H).next p) λi c=>ad (ah P c 27 i) λE=>aw c (G 133 [E] c) λj k=>ad (al P .neq 209 V j aa.fC) λe=>au e V k (aV d) λr l=>au e V l (aE (al P .geq 3 V r (I J 0))) λs m=>ad (aU e (D s) (D (Z U))) λa=>au a V m (aV d) λt n=>au a V n (aE (ak P 27 i 2)) λu f=>au a V f (qr (ah P f 24 u)) λh g=>au a V g (λq=>bE (a6 P .empty .len [24] [h]) (a6 P g .len [24] [h]) q) λv o=>au a V o (aE (al P .lss 3 U t v)) λw b=>ad (aU a (D w) (D (Z U))) λx=>ay (D x) (ad (aL j) λy=>ad (ak P 215 y 3) λz=>ad (ah P b 30 z) λA=>ad (aH P 30 A d) λB=>ad (ah P b 35 B) λC=>D (C,b)) (D (aa.ao,b))
def aic(G:ai)(N:Nat)(a:aa)(b:aa)(H:af):aB Tryz.f161 G N (aO [a,b]) H=Ad G a b H:=by
 refine aT (A:=aB Tryz.f161 G N) (aj _) ?_;delta Ad;kernel_rfl
def FU(G:ai)(N:Nat)(o:aa->aa->aa->aa->af->O)(b k:aa)(n d:aa)(H:af):O:=ad (ah P H 39 d) λm=>aw H (G 199 [m] H) λq i=>aK i (bd P (i).next 300 2 [(0,n),(1,q)]) λs j=>aw j (G 198 [s] j) λt e=>ad (ah P e 27 b) λc=>aw e (G 197 [c,t] e) λu p=>ba p [I J 0,aa.ao,aa.ao,aa.ao] λh l=>aF l (aC P l 39 h u) λf=>bif ((aJ (ah P H 39 d) m&&V)&&((aJ (ah P H 27 b) c&&(aJ (ah P i 27 b) c&&(aJ (ah P j 27 b) c&&(aJ (ah P e 27 b) c&&V))))&&V))then(ad (ak P 39 h 1) λv=>ad (ah P f 35 v) λw=>ad (ak P 39 d 1) λx=>ad (ah P f 35 x) λy=>aw f (G 200 [w,y] f) λz a=>ay (D z) (ad (ah P a 39 h) λA=>aF a (aC P a 39 k A) λg=>ad (ah P g 39 k) λr=>D (r,g)) (ad (ah P a 39 h) λB=>aF a (aC P a 39 d B) λg=>o b k n d g))else Y
def r2(G:ai)(N:Nat):Nat->aa->aa->aa->aa->af->O
 |0,_,_,_,_,_=>Y
 |n+1,a,b,c,d,H=>FU G N (r2 G N n) a b c d H
def ahr(G:ai)(N:Nat)(a:aa->aa->aa->aa->af->O):∀C H,aD P G N (aq (aq (ae (ae (ae (aG Tryz.f132)))))) (λC H=>a (C 1) (C 2) (C 3) (C 4) H) [(0,(ax Tryz.f132))] (ax Tryz.f132) C H=FU G N a (C 1) (C 2) (C 3) (C 4) H:=by
 refine aI (aj _) λC H=> ?_
 delta FU;kernel_rfl
def zU(G:ai)(N:Nat)(j:aa)(H:af):O:=aK H (bl (H).next j) λc g=>ba g [I J 0,aa.ao,aa.ao,aa.ao] λl a=>ad (ah P a 27 c) λm=>aw a (G 196 [m] a) λf b=>ad (ah P b 27 c) λn=>aw b (G 197 [n,f] b) λk h=>ba h [I J 0,aa.ao,aa.ao,aa.ao] λe d=>aF d (aC P d 39 e k) λi=>r2 G N N c l f e i
def ahs(G:ai)(N:Nat)(b:aa)(H:af):aB Tryz.f132 G N (aO [b]) H=zU G N b H:=by
 refine aT (A:=aB Tryz.f132 G N) ((ar j ((ar j ((ar j ((aX j ((a_ (k:=λm C H=>r2 G N m (C 1) (C 2) (C 3) (C 4) H) j (λC H=>j) (λm=>ahr G N (r2 G N m)))))) (aj _))) (aj _))) (aj _))) ?_;delta zU;generalize r2 G N N=a;revert a;refine id ?_;intro a;kernel_rfl
def r4(G:ai)(N:Nat)(a:aa)(H:af):O:=some (a,H)
def ahx(G:ai)(N:Nat):∀C H,aD P G N (ae (ae (ae (ae (ae (ae (ae (aG Tryz.f133)))))))) (ax Tryz.f133) [] (ax Tryz.f133) C H=r4 G N (C 3) H:=by
 refine aI (aj _) λC H=> ?_
 delta r4;kernel_rfl
def FV(G:ai)(N:Nat)(F:aa->aa->aa->aa->af->O)(i f:aa)(B j:aa)(H:af):O:=ad (al P .lss 3 U j B) λL=>ay (D L) (aw H (G 135 [f,j] H) λQ b=>ad (ah P b 27 i) λz=>aw b (G 202 [z,j] b) λae a=>ad (ak P 27 i 2) λl=>ad (ah P a 24 l) λm=>ad (aH P 24 m j) λR=>ad (ak P 46 R 0) λn=>ad (ah P a 3 n) λo=>ad (ak P 27 i 2) λp=>ad (ah P a 24 p) λq=>ad (aH P 24 q j) λS=>ad (ak P 46 S 0) λr=>ad (ah P a 3 r) λs=>ad (fK P 35 Q Y (D o) (D s)) λT=>ad (aL f) λW=>ad (ak P 215 W 1) λab=>ad (ak P 39 ab 2) λv=>ad (ah P a 35 v) λw=>ad (aH P 35 w ae) λC=>ad (ah P a 3 C) λE=>aK a (bd P (a).next 35 1 [(0,E)]) λaj e=>aw e (bx P e [35,35] T aj) λam t=>aw t (G 138 [f,am] t) λan k=>ad (aL f) λap=>ad (ak P 215 ap 2) λg=>ad (ah P k 35 g) λh=>aK k (bd P (k).next 30 1 [(0,h)]) λaq x=>aw x (G 137 [an,aq] x) λar u=>ad (aL f) λM=>ad (ak P 215 M 3) λc=>ad (ah P u 30 c) λd=>aK u (bd P (u).next 30 1 [(0,ar)]) λau y=>aw y (bx P y [30,30] d au) λav A=>ad (aL f) λax=>ad (ak P 215 ax 3) λaz=>aF A (aC P A 30 az av) λK=>bif ((aJ (ah P H 27 i) z&&(aJ (ah P b 27 i) z&&V))&&((aJ (ah P H 24 l) m&&(aJ (ah P b 24 l) m&&(aJ (ah P a 24 l) m&&(aJ (ah P e 24 l) m&&V))))&&((aJ (ah P H 3 n) o&&(aJ (ah P b 3 n) o&&(aJ (ah P a 3 n) o&&(aJ (ah P e 3 n) o&&V))))&&((aJ (ah P H 24 p) q&&(aJ (ah P b 24 p) q&&(aJ (ah P a 24 p) q&&(aJ (ah P e 24 p) q&&V))))&&((aJ (ah P H 3 r) s&&(aJ (ah P b 3 r) s&&(aJ (ah P a 3 r) s&&(aJ (ah P e 3 r) s&&V))))&&((aJ (ah P H 35 v) w&&(aJ (ah P b 35 v) w&&(aJ (ah P a 35 v) w&&V)))&&((aJ (ah P a 3 C) E&&V)&&((aJ (ah P H 35 g) h&&(aJ (ah P b 35 g) h&&(aJ (ah P a 35 g) h&&(aJ (ah P e 35 g) h&&(aJ (ah P t 35 g) h&&(aJ (ah P k 35 g) h&&V))))))&&((aJ (ah P H 30 c) d&&(aJ (ah P b 30 c) d&&(aJ (ah P a 30 c) d&&(aJ (ah P e 30 c) d&&(aJ (ah P t 30 c) d&&(aJ (ah P k 30 c) d&&(aJ (ah P x 30 c) d&&(aJ (ah P u 30 c) d&&(aJ (ah P y 30 c) d&&V)))))))))&&V)))))))))then(ad (al P .add 3 V j (I J 1)) λaA=>F i f B aA K)else Y) (r4 G N f H)
def r5(G:ai)(N:Nat):Nat->aa->aa->aa->aa->af->O
 |0,_,_,_,_,_=>Y
 |n+1,a,b,c,d,H=>FV G N (r5 G N n) a b c d H
def aht(G:ai)(N:Nat)(b:aa->aa->aa->aa->af->O):∀C H,aD P G N (aq (aq (ae (aq (ae (ae (ae (ae (ae (ae (aG Tryz.f133))))))))))) (λC H=>b (C 1) (C 3) (C 43) (C 44) H) [(2,(λC H=>r4 G N (C 3) H))] (ax Tryz.f133) C H=FV G N b (C 1) (C 3) (C 43) (C 44) H:=by
 refine aI (aj _) λC H=> ?_
 delta FV;generalize r4 G N=a;revert a;refine id ?_;intro a;kernel_rfl
def r3(G:ai)(N:Nat)(d b g:aa)(H:af):O:=aw H (G 138 [b,g] H) λe c=>ad (aL b) λf=>ad (ak P 215 f 2) λh=>aF c (aC P c 35 h e) λa=>ad (ak P 27 d 2) λi=>ad (ah P a 24 i) λj=>a1 P .len [24] [j] a λk=>r5 G N N d b k (I J 0) a
def ahw(G:ai)(N:Nat):∀C H,aD P G N (ae (ae (ae (ae (ae (aG Tryz.f133)))))) (ax Tryz.f133) [] (ax Tryz.f133) C H=r3 G N (C 1) (C 3) (C 4) H:=by
 refine aI ((ar j ((ar j (ahx G N) ((ar j ((aX j ((a_ (k:=λm C H=>r5 G N m (C 1) (C 3) (C 43) (C 44) H) j (λC H=>j) (λm=>aht G N (r5 G N m)))))) (aj _))))) (aj _))) λC H=> ?_
 delta r3;generalize r5 G N N=a;revert a;refine id ?_;intro a;kernel_rfl
def FW(G:ai)(N:Nat)(j:aa->aa->aa->aa->aa->af->O)(b f:aa)(i h c:aa)(H:af):O:=ad (al P .lss 3 U c h) λl=>ay (D l) (ad (ah P H 27 b) λo=>aw H (G 201 [o,c] H) λp a=>ad (aL f) λm=>ad (ak P 215 m 1) λn=>ad (ak P 39 n 2) λd=>ad (ah P a 35 d) λe=>ad (aH P 35 e p) λq=>ad (ah P a 3 q) λr=>aK a (bd P (a).next 35 1 [(0,r)]) λs g=>aw g (bx P g [35,35] i s) λt k=>bif ((aJ (ah P H 35 d) e&&(aJ (ah P a 35 d) e&&V))&&V)then(ad (al P .add 3 V c (I J 1)) λu=>j b f t h u k)else Y) (r3 G N b f i H)
def r6(G:ai)(N:Nat):Nat->aa->aa->aa->aa->aa->af->O
 |0,_,_,_,_,_,_=>Y
 |n+1,a,d,e,b,c,H=>FW G N (r6 G N n) a d e b c H
def ahu(G:ai)(N:Nat)(b:aa->aa->aa->aa->aa->af->O):∀C H,aD P G N (aq (aq (ae (aq (ae (ae (ae (ae (aG Tryz.f133))))))))) (λC H=>b (C 1) (C 3) (C 4) (C 17) (C 18) H) [(0,(λC H=>r3 G N (C 1) (C 3) (C 4) H))] (ax Tryz.f133) C H=FW G N b (C 1) (C 3) (C 4) (C 17) (C 18) H:=by
 refine aI (aj _) λC H=> ?_
 delta FW;generalize r3 G N=a;revert a;refine id ?_;intro a;kernel_rfl
def zV(G:ai)(N:Nat)(g:aa)(H:af):O:=aK H (bl (H).next g) λa d=>ad (ah P d 27 a) λo=>aw d (G 75 [o] d) λp b=>ad (bu .not p) λq=>ay (D q) (D (aa.fC,b)) (ad (ah P b 27 a) λh=>aw b (G 132 [h] b) λi c=>ad (ah P c 27 a) λf=>ad (bo P 215 [(0,f),(1,i)]) λj=>aK c (bl (c).next j) λk e=>bif ((aJ (ah P b 27 a) f&&(aJ (ah P c 27 a) f&&V))&&V)then(ad (ak P 27 a 1) λl=>ad (ah P e 23 l) λm=>a1 P .len [23] [m] e λn=>r6 G N N a k aa.ao n (I J 0) e)else Y)
def ahv(G:ai)(N:Nat)(b:aa)(H:af):aB Tryz.f133 G N (aO [b]) H=zV G N b H:=by
 refine aT (A:=aB Tryz.f133 G N) ((ar j ((ar j ((ar j ((ar j ((ar j (ahw G N) ((ar j ((aX j ((a_ (k:=λm C H=>r6 G N m (C 1) (C 3) (C 4) (C 17) (C 18) H) j (λC H=>j) (λm=>ahu G N (r6 G N m)))))) (aj _))))) (aj _))) (aj _))) (aj _))) (aj _))) ?_;delta zV;generalize r6 G N N=a;revert a;refine id ?_;intro a;kernel_rfl
def lY(G:ai)(N:Nat)(a:aa)(H:af):O:=some (a,H)
def ahB(G:ai)(N:Nat):∀C H,aD P G N (ae (ae (ae (aG Tryz.f134)))) (ax Tryz.f134) [] (ax Tryz.f134) C H=lY G N (C 7) H:=by
 refine aI (aj _) λC H=> ?_
 delta lY;kernel_rfl
def lZ(G:ai)(N:Nat)(a:aa->aa->aa->aa->aa->aa->aa->af->O)(b c:aa)(d i:aa)(e f g:aa)(H:af):O:=ad (al P .add 3 V g (I J 1)) λh=>a b c d i e f h H
def ahC(G:ai)(N:Nat)(a:aa->aa->aa->aa->aa->aa->aa->af->O):∀C H,aD P G N (ae (ae (ae (aq (aq (ae (aq (ae (ae (aG Tryz.f134)))))))))) (λC H=>a (C 0) (C 1) (C 2) (C 7) (C 24) (C 25) (C 26) H) [(0,(λC H=>lY G N (C 7) H))] (ax Tryz.f134) C H=lZ G N a (C 0) (C 1) (C 2) (C 7) (C 24) (C 25) (C 26) H:=by
 refine aI (aj _) λC H=> ?_
 delta lZ;kernel_rfl
def r7(G:ai)(N:Nat)(m:aa->aa->aa->aa->aa->aa->aa->af->O)(a:aa->aa->aa->aa->aa->aa->aa->aa->aa->aa->af->O)(b c:aa)(d l:aa)(e f:aa)(g h:aa)(i j:aa)(H:af):O:=ad (al P .add 3 V j (I J 1)) λk=>a b c d l e f g h i k H
def ahD(G:ai)(N:Nat)(a:aa->aa->aa->aa->aa->aa->aa->af->O)(b:aa->aa->aa->aa->aa->aa->aa->aa->aa->aa->af->O):∀C H,aD P G N (ae (ae (ae (aq (aq (ae (ae (aq (aq (ae (ae (aq (aq (ae (aq (ae (ae (aG Tryz.f134)))))))))))))))))) (λC H=>b (C 0) (C 1) (C 2) (C 7) (C 24) (C 25) (C 26) (C 33) (C 34) (C 35) H) [(2,(λC H=>lZ G N a (C 0) (C 1) (C 2) (C 7) (C 24) (C 25) (C 26) H)),(1,(λC H=>lZ G N a (C 0) (C 1) (C 2) (C 7) (C 24) (C 25) (C 26) H)),(0,(λC H=>lY G N (C 7) H))] (ax Tryz.f134) C H=r7 G N a b (C 0) (C 1) (C 2) (C 7) (C 24) (C 25) (C 26) (C 33) (C 34) (C 35) H:=by
 refine aI (aj _) λC H=> ?_
 delta r7;kernel_rfl
def FY(G:ai)(N:Nat)(f:aa->aa->aa->aa->aa->aa->aa->af->O)(p:aa->aa->aa->aa->aa->aa->aa->aa->aa->aa->af->O)(b c:aa)(i e:aa)(j k:aa)(l m:aa)(n d:aa)(H:af):O:=ad (al P .lss 3 U d n) λw=>ay (D w) (ad (aH P 35 m d) λx=>ad (ah P H 3 x) λo=>ad (aL b) λy=>ad (ak P 215 y 3) λz=>ad (ah P H 30 z) λA=>ad (aH P 30 A c) λB=>ad (ah P H 35 B) λC=>aw H (G 106 [C,o] H) λa s=>au a V s (aV e) λE t=>au a V t (aV o) λF g=>au a V g (λq=>bq g (G 106 [E,F] g) q) λK u=>au a V u (aE (bu .not K)) λL h=>ad (aU a (D L) (D (Z U))) λM=>ay (D M) (aK h (bd P (h).next 35 1 [(0,o)]) λQ r=>aw r (bx P r [35,35] e Q) λR v=>r7 G N f p b c i R j k l m n d v) (r7 G N f p b c i e j k l m n d h)) (lZ G N f b c i e j k l H)
def r9(G:ai)(N:Nat)(a:aa->aa->aa->aa->aa->aa->aa->af->O):Nat->aa->aa->aa->aa->aa->aa->aa->aa->aa->aa->af->O
 |0,_,_,_,_,_,_,_,_,_,_,_=>Y
 |n+1,b,c,d,k,e,f,g,h,i,j,H=>FY G N a (r9 G N a n) b c d k e f g h i j H
def ahz(G:ai)(N:Nat)(a:aa->aa->aa->aa->aa->aa->aa->af->O)(b:aa->aa->aa->aa->aa->aa->aa->aa->aa->aa->af->O):∀C H,aD P G N (aq (aq (ae (ae (aq (aq (ae (ae (aq (aq (ae (aq (ae (ae (aG Tryz.f134))))))))))))))) (λC H=>b (C 0) (C 1) (C 2) (C 7) (C 24) (C 25) (C 26) (C 33) (C 34) (C 35) H) [(2,(λC H=>lZ G N a (C 0) (C 1) (C 2) (C 7) (C 24) (C 25) (C 26) H)),(1,(λC H=>lZ G N a (C 0) (C 1) (C 2) (C 7) (C 24) (C 25) (C 26) H)),(0,(λC H=>lY G N (C 7) H))] (ax Tryz.f134) C H=FY G N a b (C 0) (C 1) (C 2) (C 7) (C 24) (C 25) (C 26) (C 33) (C 34) (C 35) H:=by
 refine aI ((ar j ((ar j ((ar j (ahD G N a b) (aj _))) (aj _))) (aj _))) λC H=> ?_
 delta FY;generalize lZ G N a=c;generalize r7 G N a b=d;revert c d;refine id ?_;intro c d;kernel_rfl
def FX(G:ai)(N:Nat)(l:aa->aa->aa->aa->aa->aa->aa->af->O)(e m:aa)(f j:aa)(g h b:aa)(H:af):O:=ad (al P .lss 3 U b h) λn=>ay (D n) (ad (aH P 44 g b) λo=>ad (ah P H 75 o) λp=>ba H [I J 0,I J 0,I J 0,I J 0,I J 0,aa.ao] λk c=>aF c (aC P c 75 k p) λa=>ad (ah P a 75 k) λq=>aw a (G 203 [e,q,f] a) λi d=>a1 P .len [35] [i] d λr=>r9 G N l N e m f j g h b i r (I J 0) d) (lY G N j H)
def r8(G:ai)(N:Nat):Nat->aa->aa->aa->aa->aa->aa->aa->af->O
 |0,_,_,_,_,_,_,_,_=>Y
 |n+1,a,b,c,g,d,e,f,H=>FX G N (r8 G N n) a b c g d e f H
def ahy(G:ai)(N:Nat)(a:aa->aa->aa->aa->aa->aa->aa->af->O):∀C H,aD P G N (aq (aq (ae (aq (ae (ae (aG Tryz.f134))))))) (λC H=>a (C 0) (C 1) (C 2) (C 7) (C 24) (C 25) (C 26) H) [(0,(λC H=>lY G N (C 7) H))] (ax Tryz.f134) C H=FX G N a (C 0) (C 1) (C 2) (C 7) (C 24) (C 25) (C 26) H:=by
 refine aI ((ar j ((ar j ((ar j (ahC G N a) ((aX j ((ar j ((ar j ((aX j ((a_ (k:=λm C H=>r9 G N a m (C 0) (C 1) (C 2) (C 7) (C 24) (C 25) (C 26) (C 33) (C 34) (C 35) H) j (λC H=>j) (λm=>ahz G N a (r9 G N a m)))))) (aj _))) (aj _))))))) (aj _))) (aj _))) λC H=> ?_
 delta FX;generalize lY G N=b;generalize r9 G N a N=c;revert b c;refine id ?_;intro b c;kernel_rfl
def zW(G:ai)(N:Nat)(b a c:aa)(H:af):O:=ad (aH P 30 c a) λe=>ad (ah P H 35 e) λf=>ad (aL b) λg=>ad (ak P 215 g 0) λh=>ad (ak P 27 h 2) λi=>ad (ah P H 24 i) λj=>ad (aH P 24 j a) λk=>ad (ak P 46 k 4) λl=>ad (ah P H 44 l) λd=>a1 P .len [44] [d] H λm=>r8 G N N b a c f d m (I J 0) H
def ahA(G:ai)(N:Nat)(b:aa)(c:aa)(d:aa)(H:af):aB Tryz.f134 G N (aO [b,c,d]) H=zW G N b c d H:=by
 refine aT (A:=aB Tryz.f134 G N) ((ar j ((ar j ((ar j (ahB G N) ((ar j ((aX j ((a_ (k:=λm C H=>r8 G N m (C 0) (C 1) (C 2) (C 7) (C 24) (C 25) (C 26) H) j (λC H=>j) (λm=>ahy G N (r8 G N m)))))) (aj _))))) (aj _))) (aj _))) ?_;delta zW;generalize r8 G N N=a;revert a;refine id ?_;intro a;kernel_rfl
def zX(G:ai)(a c:aa)(H:af):O:=ad (aL a) λu=>ad (ak P 215 u 0) λv=>ad (ak P 27 v 2) λf=>ad (ah P H 24 f) λg=>ad (aH P 24 g c) λh=>ad (ak P 46 h 1) λi=>ad (ah P H 23 i) λj=>a1 P .len [23] [j] H λd=>ad (al P .eql 3 V d (I J 0)) λk=>ay (D k) (D (aa.ao,H)) (ad (aL a) λl=>ad (ak P 215 l 0) λm=>ad (ah P H 27 m) λn=>aw H (G 204 [n,c,I J 0] H) λe b=>ad (aL a) λo=>ad (ak P 215 o 1) λp=>ad (ak P 39 p 2) λq=>ad (ah P b 35 q) λr=>ad (al P .add 3 U e d) λs=>ad (fK P 35 r (D e) (D s) Y) λt=>D (t,b))
def ahE(G:ai)(N:Nat)(a:aa)(b:aa)(H:af):aB Tryz.f135 G N (aO [a,b]) H=zX G a b H:=by
 refine aT (A:=aB Tryz.f135 G N) (aj _) ?_;delta zX;kernel_rfl
def o4(G:ai)(H:af):O:=some (aa.ao,H)
def ahG(G:ai)(N:Nat):∀C H,aD P G N (ae (ae (aG Tryz.f136))) (ax Tryz.f136) [] (ax Tryz.f136) C H=o4 G H:=by
 refine aI (aj _) λC H=> ?_
 delta o4;kernel_rfl
def r_(G:ai)(a c:aa)(w x:aa)(H:af):O:=ay (D x) (ad (aL a) λe=>ad (ak P 215 e 1) λf=>ad (ak P 39 f 1) λg=>ad (ah P H 35 g) λh=>ad (ak P 75 c 4) λi=>ad (ah P H 3 i) λj=>ad (aH P 35 h j) λk=>ad (ah P H 3 k) λl=>aK H (bd P (H).next 35 1 [(0,l)]) λm b=>aw b (G 138 [a,m] b) λn d=>D (n,d)) (ad (al P .eql 3 V w (I J 13)) λo=>ay (D o) (ad (aL a) λp=>ad (ak P 215 p 3) λq=>ad (ah P H 30 q) λr=>ad (ak P 75 c 3) λs=>ad (ah P H 3 s) λt=>ad (aH P 30 r t) λu=>ad (ah P H 35 u) λv=>D (v,H)) (o4 G H))
def ahH(G:ai)(N:Nat):∀C H,aD P G N (ae (aq (ae (aq (ae (aG Tryz.f136)))))) (λC H=>o4 G H) [(0,(λC H=>o4 G H))] (ax Tryz.f136) C H=r_ G (C 0) (C 3) (C 6) (C 7) H:=by
 refine aI (aj _) λC H=> ?_
 delta r_;generalize o4 G=a;revert a;refine id ?_;intro a;kernel_rfl
def zY(G:ai)(d f:aa)(H:af):O:=aK H (bl (H).next f) λc b=>ad (ak P 75 c 0) λg=>ad (ah P b 3 g) λa=>ad (al P .eql 3 V a (I J 11)) λe=>ay (D e) (r_ G d c a e b) (ad (al P .eql 3 V a (I J 12)) λh=>r_ G d c a h b)
def ahF(G:ai)(N:Nat)(b:aa)(c:aa)(H:af):aB Tryz.f136 G N (aO [b,c]) H=zY G b c H:=by
 refine aT (A:=aB Tryz.f136 G N) ((ar j ((ar j (ahG G N) ((ar j ((aX j ((ar j (ahH G N) (aj _))))) (aj _))))) (aj _))) ?_;delta zY;generalize r_ G=a;revert a;refine id ?_;intro a;kernel_rfl
def o5(G:ai)(N:Nat)(a:aa)(H:af):O:=some (a,H)
def ahK(G:ai)(N:Nat):∀C H,aD P G N (ae (ae (ae (aG Tryz.f137)))) (ax Tryz.f137) [] (ax Tryz.f137) C H=o5 G N (C 5) H:=by
 refine aI (aj _) λC H=> ?_
 delta o5;kernel_rfl
def sa(G:ai)(N:Nat)(a:aa->aa->aa->aa->aa->af->O)(b e:aa)(f g c:aa)(H:af):O:=ad (al P .add 3 V c (I J 1)) λd=>a b e f g d H
def ahL(G:ai)(N:Nat)(a:aa->aa->aa->aa->aa->af->O):∀C H,aD P G N (ae (ae (ae (aq (aq (ae (aq (ae (ae (aG Tryz.f137)))))))))) (λC H=>a (C 1) (C 5) (C 8) (C 9) (C 10) H) [(0,(λC H=>o5 G N (C 5) H))] (ax Tryz.f137) C H=sa G N a (C 1) (C 5) (C 8) (C 9) (C 10) H:=by
 refine aI (aj _) λC H=> ?_
 delta sa;kernel_rfl
def FZ(G:ai)(N:Nat)(h:aa->aa->aa->aa->aa->af->O)(c d:aa)(f g b:aa)(H:af):O:=ad (al P .lss 3 U b g) λm=>ay (D m) (ad (aH P 35 f b) λn=>ad (ah P H 3 n) λo=>ba H [I J 0] λe i=>aF i (aC P i 3 e o) λj=>aw j (G 205 [c,(.func (.func 206) [] [e])] j) λp a=>ad (bu .not p) λq=>ay (D q) (ad (ah P a 3 e) λr=>aK a (bd P (a).next 35 1 [(0,r)]) λs k=>aw k (bx P k [35,35] d s) λt l=>sa G N h c t f g b l) (sa G N h c d f g b a)) (o5 G N d H)
def sb(G:ai)(N:Nat):Nat->aa->aa->aa->aa->aa->af->O
 |0,_,_,_,_,_,_=>Y
 |n+1,a,c,d,e,b,H=>FZ G N (sb G N n) a c d e b H
def ahI(G:ai)(N:Nat)(a:aa->aa->aa->aa->aa->af->O):∀C H,aD P G N (aq (aq (ae (aq (ae (ae (aG Tryz.f137))))))) (λC H=>a (C 1) (C 5) (C 8) (C 9) (C 10) H) [(0,(λC H=>o5 G N (C 5) H))] (ax Tryz.f137) C H=FZ G N a (C 1) (C 5) (C 8) (C 9) (C 10) H:=by
 refine aI ((ar j ((ar j ((ar j (ahL G N a) (aj _))) (aj _))) (aj _))) λC H=> ?_
 delta FZ;generalize o5 G N=b;generalize sa G N a=c;revert b c;refine id ?_;intro b c;kernel_rfl
def zZ(G:ai)(N:Nat)(a b:aa)(H:af):O:=a1 P .len [35] [a] H λc=>sb G N N b aa.ao a c (I J 0) H
def ahJ(G:ai)(N:Nat)(b:aa)(c:aa)(H:af):aB Tryz.f137 G N (aO [b,c]) H=zZ G N b c H:=by
 refine aT (A:=aB Tryz.f137 G N) ((ar j ((ar j ((ar j (ahK G N) ((ar j ((aX j ((a_ (k:=λm C H=>sb G N m (C 1) (C 5) (C 8) (C 9) (C 10) H) j (λC H=>j) (λm=>ahI G N (sb G N m)))))) (aj _))))) (aj _))) (aj _))) ?_;delta zZ;generalize sb G N N=a;revert a;refine id ?_;intro a;kernel_rfl
def z1(G:ai)(b c:aa)(H:af):O:=ad (aL b) λe=>ad (ak P 215 e 1) λf=>ad (ak P 39 f 3) λg=>ad (ah P H 30 g) λh=>aw H (G 95 [h,c] H) λd a=>D (d,a)
def ahM(G:ai)(N:Nat)(a:aa)(b:aa)(H:af):aB Tryz.f138 G N (aO [a,b]) H=z1 G a b H:=by
 refine aT (A:=aB Tryz.f138 G N) (aj _) ?_;delta z1;kernel_rfl
def AH(G:ai)(A o:aa)(H:af):O:=aK H (bl (H).next A) λi x=>ba x [I J 0,aa.ao,aa.ao,aa.ao] λv b=>ad (ah P b 27 i) λp=>aw b (G 238 [p] b) λq a=>ad (ak P 27 i 3) λh=>ad (ah P a 25 h) λe=>bE (a6 P .empty .len [25] [e]) (a6 P a .len [25] [e]) λd=>aw (d.heap a) (G 237 [q,d.val,I J 8,o] (d.heap a)) λf l=>ad (bJ f 0) λs=>ba l [aa.ao,aa.ao] λj m=>h7 m (aC P m 181 j s) λy c=>ad (bJ f 1) λt=>bif dF [0,1,0,4,12,0,63,127,255,255,0,1535,4095] [11,12] [⟨0,.read p,λH=>ah P H 27 i⟩,⟨1,.bs q a,λH=>Y⟩,⟨2,.pure h,λH=>Y⟩,⟨3,.read e,λH=>ah P H 25 h⟩,⟨4,d,λH=>a6 P H .len [25] [e]⟩,⟨5,.pure o,λH=>Y⟩,⟨6,.bs f l,λH=>Y⟩,⟨7,.pure f,λH=>Y⟩,⟨8,.pure s,λH=>Y⟩,⟨10,(.new j (.row U (List.length [aa.ao,aa.ao]) [[aa.ao,aa.ao]])),λH=>Y⟩,⟨11,.bs y c,λH=>Y⟩,⟨9,.pure t,λH=>Y⟩,⟨12,.pure t,λH=>Y⟩] b then(ad (ah P c 181 j) λB=>aw c (G 239 [B] c) λu z=>ad (bJ u 0) λC=>ad (bJ u 1) λF=>ba z [I J 0,aa.ao,aa.ao,aa.ao] λw n=>aF n (aC P n 39 w C) λg=>ad (ah P g 39 w) λE=>aF g (aC P g 39 v E) λk=>ad (ah P k 39 v) λr=>D (r,k))else Y
def ajz(G:ai)(N:Nat)(a:aa)(b:aa)(H:af):aB Tryz.f197 G N (aO [a,b]) H=AH G a b H:=by
 refine aT (A:=aB Tryz.f197 G N) (aj _) ?_;delta AH;kernel_rfl
def tm(G:ai)(N:Nat)(a:aa)(H:af):O:=some (a,H)
def ajI(G:ai)(N:Nat):∀C H,aD P G N (ae (ae (ae (aG Tryz.f199)))) (ax Tryz.f199) [] (ax Tryz.f199) C H=tm G N (C 3) H:=by
 refine aI (aj _) λC H=> ?_
 delta tm;kernel_rfl
def Gt(G:ai)(N:Nat)(h:aa->aa->aa->aa->aa->af->O)(d e:aa)(f g a:aa)(H:af):O:=ad (al P .lss 3 U a g) λj=>ay (D j) (ad (aH P 35 f a) λk=>ad (ah P H 3 k) λl=>ad (ak P 39 d 1) λm=>ad (ah P H 35 m) λn=>aw H (G 139 [n,l] H) λo b=>ad (bo P 187 [(0,(I J 5)),(1,a),(2,o)]) λp=>aK b (bd P (b).next 178 1 [(0,p)]) λq c=>aw c (bx P c [178,178] e q) λr i=>ad (al P .add 3 V a (I J 1)) λs=>h d r f g s i) (tm G N e H)
def tn(G:ai)(N:Nat):Nat->aa->aa->aa->aa->aa->af->O
 |0,_,_,_,_,_,_=>Y
 |n+1,a,b,c,d,e,H=>Gt G N (tn G N n) a b c d e H
def ajG(G:ai)(N:Nat)(b:aa->aa->aa->aa->aa->af->O):∀C H,aD P G N (aq (aq (ae (aq (ae (ae (aG Tryz.f199))))))) (λC H=>b (C 1) (C 3) (C 7) (C 8) (C 9) H) [(0,(λC H=>tm G N (C 3) H))] (ax Tryz.f199) C H=Gt G N b (C 1) (C 3) (C 7) (C 8) (C 9) H:=by
 refine aI (aj _) λC H=> ?_
 delta Gt;generalize tm G N=a;revert a;refine id ?_;intro a;kernel_rfl
def AJ(G:ai)(N:Nat)(d:aa)(H:af):O:=aK H (bl (H).next d) λb a=>ad (ak P 39 b 1) λe=>ad (ah P a 35 e) λc=>a1 P .len [35] [c] a λf=>tn G N N b aa.ao c f (I J 0) a
def ajH(G:ai)(N:Nat)(b:aa)(H:af):aB Tryz.f199 G N (aO [b]) H=AJ G N b H:=by
 refine aT (A:=aB Tryz.f199 G N) ((ar j ((ar j ((ar j (ajI G N) ((ar j ((aX j ((a_ (k:=λm C H=>tn G N m (C 1) (C 3) (C 7) (C 8) (C 9) H) j (λC H=>j) (λm=>ajG G N (tn G N m)))))) (aj _))))) (aj _))) (aj _))) ?_;delta AJ;generalize tn G N N=a;revert a;refine id ?_;intro a;kernel_rfl
def o_(G:ai)(H:af):O:=some (aa.ao,H)
def ajQ(G:ai)(N:Nat):∀C H,aD P G N (ae (ae (aG Tryz.f203))) (ax Tryz.f203) [] (ax Tryz.f203) C H=o_ G H:=by
 refine aI (aj _) λC H=> ?_
 delta o_;kernel_rfl
def tr(G:ai)(c k:aa)(a s t:aa)(H:af):O:=ay (D t) (ad (aL c) λd=>ad (ak P 215 d 1) λe=>ad (ak P 39 e 1) λf=>ad (ah P H 35 f) λg=>ad (ak P 75 a 4) λh=>ad (ah P H 3 h) λi=>ad (aH P 35 g i) λj=>ad (ah P H 3 j) λl=>aK H (bd P (H).next 35 1 [(0,l)]) λm b=>D (m,b)) (ad (al P .eql 3 V s (I J 13)) λn=>ay (D n) (ad (ak P 75 a 3) λo=>ad (ah P H 3 o) λp=>ad (aH P 30 k p) λq=>ad (ah P H 35 q) λr=>D (r,H)) (o_ G H))
def ajR(G:ai)(N:Nat):∀C H,aD P G N (ae (aq (ae (aq (ae (aG Tryz.f203)))))) (λC H=>o_ G H) [(0,(λC H=>o_ G H))] (ax Tryz.f203) C H=tr G (C 0) (C 2) (C 4) (C 8) (C 9) H:=by
 refine aI (aj _) λC H=> ?_
 delta tr;generalize o_ G=a;revert a;refine id ?_;intro a;kernel_rfl
def AN(G:ai)(d g f:aa)(H:af):O:=aK H (bl (H).next g) λc b=>ad (ak P 75 c 0) λi=>ad (ah P b 3 i) λa=>ad (al P .eql 3 V a (I J 11)) λe=>ay (D e) (tr G d f c a e b) (ad (al P .eql 3 V a (I J 12)) λh=>tr G d f c a h b)
def ajP(G:ai)(N:Nat)(b:aa)(c:aa)(d:aa)(H:af):aB Tryz.f203 G N (aO [b,c,d]) H=AN G b c d H:=by
 refine aT (A:=aB Tryz.f203 G N) ((ar j ((ar j (ajQ G N) ((ar j ((aX j ((ar j (ajR G N) (aj _))))) (aj _))))) (aj _))) ?_;delta AN;generalize tr G=a;revert a;refine id ?_;intro a;kernel_rfl
def AQ(G:ai)(b c:aa)(H:af):O:=ad (ah P H 3 c) λd=>aw H (G 106 [b,d] H) λe a=>D (e,a)
def ajU(G:ai)(N:Nat)(a:aa)(b:aa)(H:af):aB Tryz.f206 G N (aO [a,b]) H=AQ G a b H:=by
 refine aT (A:=aB Tryz.f206 G N) (aj _) ?_;delta AQ;kernel_rfl
