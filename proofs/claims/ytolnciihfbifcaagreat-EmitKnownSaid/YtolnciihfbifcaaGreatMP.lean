/-
  Texts of one proof, laid together: ShQ.
-/
import Derived.Test.YtolnciihfbifcaaGreatME
set_option linter.unusedVariables false
set_option linter.unusedSimpArgs false
set_option linter.defProp false
open Option renaming some→D,none→Y
open Bool renaming true→V,false→U
open Go.cV.aa renaming int→I,str→X,bool→Z
open Go.IntKind renaming i64→J
namespace Go.Proofs.YtolnciihfbifcaaGreat
open Go.cV
set_option maxRecDepth 100000
noncomputable section
def wO(G:ai)(N:Nat)(c d f:aa)(H:af):O:=ad (ah P H 129 f) λg=>aF H (aC P H 129 c g) λb=>aF b (aC P b 58 d (.agg [I J 0,I J 0])) λa=>ad (ah P a 129 c) λr=>ad (ah P a 58 d) λe=>D (.tuple [r,e],a)
def apZ(G:ai)(N:Nat):∀C H,aD P G N (ae (ae (ae (ae (ae (aG Tryz.f69)))))) (ax Tryz.f69) [] (ax Tryz.f69) C H=wO G N (C 2) (C 3) (C 6) H:=by
 refine aI (aj _) λC H=> ?_
 delta wO;kernel_rfl
def HS(G:ai)(N:Nat)(z:aa->aa->aa->aa->aa->aa->af->O)(g k:aa)(l e:aa)(m f:aa)(H:af):O:=ad (ak P 55 g 2) λC=>ad (ah P H 53 C) λE=>a1 P .len [53] [E] H λF=>ad (al P .lss 3 U f F) λK=>ay (D K) (ad (ah P H 55 g) λM=>aw H (G 122 [M] H) λQ b=>ad (ah P b 126 e) λn=>ad (ak P 126 e 2) λo=>ad (ah P b 124 o) λp=>ad (aH P 124 p f) λq=>ad (ah P b 139 q) λs=>ad (bo P 199 [(0,n),(1,Q),(2,s)]) λR=>aK b (bl (b).next R) λh i=>bif ((aJ (ah P H 126 e) n&&(aJ (ah P b 126 e) n&&V))&&((aJ (ah P H 124 o) p&&(aJ (ah P b 124 o) p&&V))&&((aJ (ah P H 139 q) s&&(aJ (ah P b 139 q) s&&V))&&V)))then(ad (ak P 126 e 2) λS=>ad (ah P i 124 S) λT=>ad (aH P 124 T f) λW=>ad (ak P 139 W 1) λab=>ad (ah P i 123 ab) λae=>aw i (bx P i [123,123] aa.ao ae) λaj x=>ad (aL h) λam=>ad (ak P 199 am 3) λan=>aF x (aC P x 123 an aj) λj=>ad (ak P 55 g 2) λap=>ad (ah P j 53 ap) λaq=>ad (aH P 53 aq f) λar=>ad (ak P 121 ar 4) λau=>ad (ah P j 119 au) λav=>aw j (G 123 [h,av] j) λax y=>aw y (G 124 [h] y) λaz a=>ad (bu .not az) λaA=>ay (D aA) (aF a (aC P a 129 k (.agg [aa.ao,aa.ao,aa.ao,I J 0,aa.ao])) λc=>ad (aL h) λaB=>ad (ak P 199 aB 4) λt=>ad (ah P c 58 t) λu=>aF c (aC P c 58 l u) λd=>bif ((aJ (ah P a 58 t) u&&(aJ (ah P c 58 t) u&&V))&&V)then(ad (ah P d 129 k) λr=>ad (ah P d 58 l) λB=>D (.tuple [r,B],d))else Y) (ad (ak P 129 m 1) λv=>ad (ah P a 127 v) λw=>ad (aL h) λaD=>ad (ak P 199 aD 3) λaE=>ad (ah P a 123 aE) λaG=>ad (ak P 55 g 2) λaI=>ad (ah P a 53 aI) λaM=>ad (aH P 53 aM f) λaN=>ad (ak P 121 aN 5) λaO=>ad (ah P a 3 aO) λaP=>ad (bo P 137 [(0,aG),(1,ax),(2,aP)]) λaQ=>aK a (bd P (a).next 127 1 [(0,aQ)]) λaR c=>aw c (bx P c [127,127] w aR) λaS d=>ad (ak P 129 m 1) λaT=>aF d (aC P d 127 aT aS) λA=>bif ((aJ (ah P a 127 v) w&&(aJ (ah P c 127 v) w&&V))&&V)then(ad (al P .add 3 V f (I J 1)) λL=>z g k l e m L A)else Y))else Y) (wO G N k l m H)
def wP(G:ai)(N:Nat):Nat->aa->aa->aa->aa->aa->aa->af->O
 |0,_,_,_,_,_,_,_=>Y
 |n+1,a,b,c,d,e,f,H=>HS G N (wP G N n) a b c d e f H
def apX(G:ai)(N:Nat)(b:aa->aa->aa->aa->aa->aa->af->O):∀C H,aD P G N (aq (aq (ae (aq (ae (ae (ae (ae (aG Tryz.f69))))))))) (λC H=>b (C 1) (C 2) (C 3) (C 4) (C 6) (C 7) H) [(0,(λC H=>wO G N (C 2) (C 3) (C 6) H))] (ax Tryz.f69) C H=HS G N b (C 1) (C 2) (C 3) (C 4) (C 6) (C 7) H:=by
 refine aI (aj _) λC H=> ?_
 delta HS;generalize wO G N=a;revert a;refine id ?_;intro a;kernel_rfl
def pF(G:ai)(N:Nat)(u:aa)(H:af):O:=aK H (bl (H).next u) λl o=>ba o [aa.ao,aa.ao,aa.ao,I J 0,aa.ao] λg p=>ba p [I J 0,I J 0] λh e=>ad (ah P e 55 l) λv=>aw e (G 121 [v] e) λm q=>ad (bJ m 0) λw=>ad (bJ m 1) λx=>ba q [aa.ao,aa.ao,aa.ao,I J 0] λi s=>ba s [I J 0,I J 0] λd j=>aF j (aC P j 126 i w) λk=>aF k (aC P k 58 d x) λb=>ad (ak P 58 d 0) λy=>ad (ah P b 56 y) λz=>ad (al P .neq 56 V z (I J 0)) λA=>ay (D A) (aF b (aC P b 129 g (.agg [aa.ao,aa.ao,aa.ao,I J 0,aa.ao])) λa=>ad (ah P a 58 d) λf=>aF a (aC P a 58 h f) λc=>bif ((aJ (ah P b 58 d) f&&(aJ (ah P a 58 d) f&&V))&&V)then(ad (ah P c 129 g) λr=>ad (ah P c 58 h) λt=>D (.tuple [r,t],c))else Y) (ad (ah P b 126 i) λB=>ad (bo P 129 [(0,B)]) λC=>ba b [aa.ao,aa.ao,aa.ao,I J 0,aa.ao] λn a=>aF a (aC P a 129 n C) λc=>wP G N N l g h i n (I J 0) c)
def apY(G:ai)(N:Nat)(b:aa)(H:af):aB Tryz.f69 G N (aO [b]) H=pF G N b H:=by
 refine aT (A:=aB Tryz.f69 G N) ((ar j ((ar j ((ar j ((ar j ((ar j (apZ G N) ((ar j ((aX j ((a_ (k:=λm C H=>wP G N m (C 1) (C 2) (C 3) (C 4) (C 6) (C 7) H) j (λC H=>j) (λm=>apX G N (wP G N m)))))) (aj _))))) (aj _))) (aj _))) (aj _))) (aj _))) ?_;delta pF;generalize wP G N N=a;revert a;refine id ?_;intro a;kernel_rfl
def mr(G:ai)(N:Nat)(b:aa)(H:af):O:=aF H (aC P H 58 b (.agg [I J 0,I J 0])) λa=>ad (ah P a 58 b) λr=>D (r,a)
def ap3(G:ai)(N:Nat):∀C H,aD P G N (ae (ae (ae (ae (aG Tryz.f70))))) (ax Tryz.f70) [] (ax Tryz.f70) C H=mr G N (C 2) H:=by
 refine aI (aj _) λC H=> ?_
 delta mr;kernel_rfl
def np(G:ai)(N:Nat)(a:aa->aa->aa->af->O)(b d e:aa)(H:af):O:=ad (al P .add 3 V e (I J 1)) λc=>a b d c H
def ap4(G:ai)(N:Nat)(a:aa->aa->aa->af->O):∀C H,aD P G N (ae (ae (aq (aq (ae (aq (ae (ae (ae (aG Tryz.f70)))))))))) (λC H=>a (C 2) (C 3) (C 5) H) [(0,(λC H=>mr G N (C 2) H))] (ax Tryz.f70) C H=np G N a (C 2) (C 3) (C 5) H:=by
 refine aI (aj _) λC H=> ?_
 delta np;kernel_rfl
def wQ(G:ai)(N:Nat)(g:aa->aa->aa->af->O)(b e:aa)(f c:aa)(H:af):O:=ad (ak P 129 e 1) λh=>ad (ah P H 127 h) λi=>ad (aH P 127 i f) λj=>ad (ak P 137 j 1) λk=>ad (ah P H 119 k) λl=>aw H (G 125 [c,l] H) λv a=>ad (aL c) λm=>ad (ak P 203 m 1) λn=>ad (ak P 58 n 0) λo=>ad (ah P a 56 o) λp=>ad (al P .neq 56 V p (I J 0)) λq=>ay (D q) (ad (aL c) λs=>ad (ak P 203 s 1) λt=>ad (ah P a 58 t) λu=>aF a (aC P a 58 b u) λd=>ad (ah P d 58 b) λr=>D (r,d)) (np G N g b e f a)
def ap5(G:ai)(N:Nat)(a:aa->aa->aa->af->O):∀C H,aD P G N (ae (ae (aq (aq (ae (aq (aq (ae (aq (ae (ae (ae (aG Tryz.f70))))))))))))) (λC H=>np G N a (C 2) (C 3) (C 5) H) [(1,(λC H=>np G N a (C 2) (C 3) (C 5) H)),(0,(λC H=>mr G N (C 2) H))] (ax Tryz.f70) C H=wQ G N a (C 2) (C 3) (C 5) (C 6) H:=by
 refine aI (aj _) λC H=> ?_
 delta wQ;generalize np G N a=b;revert b;refine id ?_;intro b;kernel_rfl
def HU(G:ai)(N:Nat)(f:aa->aa->aa->af->O)(g:aa->aa->aa->aa->aa->af->O)(e a:aa)(b c d:aa)(H:af):O:=ad (ak P 129 a 0) λi=>ad (ak P 126 i 2) λj=>ad (ah P H 124 j) λk=>ad (aH P 124 k b) λl=>ad (ak P 139 l 1) λm=>ad (ah P H 123 m) λn=>a1 P .len [123] [n] H λo=>ad (al P .lss 3 U d o) λp=>ay (D p) (ad (aL c) λr=>ad (ak P 203 r 0) λs=>ad (ah P H 95 s) λt=>ad (aH P 95 t d) λu=>aF H (aC P H 4 u (Z V)) λh=>ad (al P .add 3 V d (I J 1)) λq=>g e a b c q h) (wQ G N f e a b c H)
def wS(G:ai)(N:Nat)(a:aa->aa->aa->af->O):Nat->aa->aa->aa->aa->aa->af->O
 |0,_,_,_,_,_,_=>Y
 |n+1,b,c,d,e,f,H=>HU G N a (wS G N a n) b c d e f H
def ap1(G:ai)(N:Nat)(a:aa->aa->aa->af->O)(c:aa->aa->aa->aa->aa->af->O):∀C H,aD P G N (aq (aq (ae (aq (ae (aq (aq (ae (aq (aq (ae (aq (ae (ae (ae (aG Tryz.f70)))))))))))))))) (λC H=>c (C 2) (C 3) (C 5) (C 6) (C 7) H) [(2,(λC H=>wQ G N a (C 2) (C 3) (C 5) (C 6) H)),(1,(λC H=>np G N a (C 2) (C 3) (C 5) H)),(0,(λC H=>mr G N (C 2) H))] (ax Tryz.f70) C H=HU G N a c (C 2) (C 3) (C 5) (C 6) (C 7) H:=by
 refine aI (aj _) λC H=> ?_
 delta HU;generalize wQ G N a=b;revert b;refine id ?_;intro b;kernel_rfl
def HT(G:ai)(N:Nat)(f:aa->aa->aa->af->O)(d a b:aa)(H:af):O:=ad (ak P 129 a 1) λh=>ad (ah P H 127 h) λi=>a1 P .len [127] [i] H λj=>ad (al P .lss 3 U b j) λk=>ay (D k) (ad (ak P 129 a 1) λl=>ad (ah P H 127 l) λm=>ad (aH P 127 m b) λn=>ad (ak P 137 n 0) λo=>ad (ah P H 123 o) λp=>a1 P .len [123] [p] H λe=>aK H (fP (gu P ⟨.leaf,(H).next⟩ 95 e e) (H).next) λq c=>ad (bo P 203 [(0,q)]) λr=>aK c (bl (c).next r) λs g=>wS G N f N d a b s (I J 0) g) (mr G N d H)
def wR(G:ai)(N:Nat):Nat->aa->aa->aa->af->O
 |0,_,_,_,_=>Y
 |n+1,a,b,c,H=>HT G N (wR G N n) a b c H
def ap0(G:ai)(N:Nat)(a:aa->aa->aa->af->O):∀C H,aD P G N (aq (aq (ae (aq (ae (ae (ae (aG Tryz.f70)))))))) (λC H=>a (C 2) (C 3) (C 5) H) [(0,(λC H=>mr G N (C 2) H))] (ax Tryz.f70) C H=HT G N a (C 2) (C 3) (C 5) H:=by
 refine aI ((ar j ((ar j (ap4 G N a) ((aX j ((ar j ((ar j (ap5 G N a) ((ar j ((aX j ((a_ (k:=λm C H=>wS G N a m (C 2) (C 3) (C 5) (C 6) (C 7) H) j (λC H=>j) (λm=>ap1 G N a (wS G N a m)))))) (aj _))))) (aj _))))))) (aj _))) λC H=> ?_
 delta HT;generalize mr G N=b;generalize wS G N a N=c;revert b c;refine id ?_;intro b c;kernel_rfl
def pG(G:ai)(N:Nat)(m:aa)(H:af):O:=aK H (bl (H).next m) λn j=>ba j [I J 0,I J 0] λc b=>ad (ah P b 55 n) λv=>aw b (G 69 [v] b) λh k=>ad (bJ h 0) λo=>ad (bJ h 1) λp=>ba k [aa.ao,aa.ao,aa.ao,I J 0,aa.ao] λi l=>ba l [I J 0,I J 0] λd e=>aF e (aC P e 129 i o) λf=>aF f (aC P f 58 d p) λa=>ad (ak P 58 d 0) λq=>ad (ah P a 56 q) λs=>ad (al P .neq 56 V s (I J 0)) λt=>ay (D t) (ad (ah P a 58 d) λu=>aF a (aC P a 58 c u) λg=>ad (ah P g 58 c) λr=>D (r,g)) (wR G N N c i (I J 0) a)
def ap2(G:ai)(N:Nat)(b:aa)(H:af):aB Tryz.f70 G N (aO [b]) H=pG G N b H:=by
 refine aT (A:=aB Tryz.f70 G N) ((ar j ((ar j ((ar j ((ar j (ap3 G N) ((ar j ((aX j ((a_ (k:=λm C H=>wR G N m (C 2) (C 3) (C 5) H) j (λC H=>j) (λm=>ap0 G N (wR G N m)))))) (aj _))))) (aj _))) (aj _))) (aj _))) ?_;delta pG;generalize wR G N N=a;revert a;refine id ?_;intro a;kernel_rfl
def j5(G:ai)(N:Nat)(c d g:aa)(H:af):O:=ad (ak P 126 g 3) λh=>ad (ah P H 3 h) λi=>ad (al P .lss 3 V i (I J 0)) λj=>ay (D j) (aw H (G 185 [I J 0] H) λk b=>aF b (aC P b 126 c (.agg [aa.ao,aa.ao,aa.ao,I J 0])) λa=>aF a (aC P a 58 d k) λe=>ad (ah P e 126 c) λr=>ad (ah P e 58 d) λf=>D (.tuple [r,f],e)) (ad (ah P H 126 g) λl=>aF H (aC P H 126 c l) λb=>aF b (aC P b 58 d (.agg [I J 0,I J 0])) λa=>ad (ah P a 126 c) λr=>ad (ah P a 58 d) λf=>D (.tuple [r,f],a))
def agS(G:ai)(N:Nat):∀C H,aD P G N (ae (ae (ae (ae (ae (ae (ae (ae (ae (aG Tryz.f121)))))))))) (ax Tryz.f121) [] (ax Tryz.f121) C H=j5 G N (C 2) (C 3) (C 7) H:=by
 refine aI (aj _) λC H=> ?_
 delta j5;kernel_rfl
def jR(G:ai)(N:Nat)(a:aa->aa->aa->aa->aa->aa->af->O)(b e:aa)(f g:aa)(h d:aa)(H:af):O:=ad (al P .add 3 V d (I J 1)) λc=>a b e f g h c H
def agT(G:ai)(N:Nat)(a:aa->aa->aa->aa->aa->aa->af->O):∀C H,aD P G N (ae (ae (aq (aq (ae (aq (ae (ae (ae (ae (ae (ae (ae (ae (aG Tryz.f121))))))))))))))) (λC H=>a (C 1) (C 2) (C 3) (C 4) (C 7) (C 13) H) [(6,(λC H=>j5 G N (C 2) (C 3) (C 7) H))] (ax Tryz.f121) C H=jR G N a (C 1) (C 2) (C 3) (C 4) (C 7) (C 13) H:=by
 refine aI (aj _) λC H=> ?_
 delta jR;kernel_rfl
def rE(G:ai)(N:Nat)(d:aa->aa->aa->aa->aa->aa->af->O)(f o:aa)(p q:aa)(a g h:aa)(H:af):O:=ad (ak P 126 a 2) λi=>ad (ah P H 124 i) λj=>ad (ah P H 139 h) λk=>aK H (bd P (H).next 124 1 [(0,k)]) λl b=>aw b (bx P b [124,124] j l) λm c=>ad (ak P 126 a 2) λn=>aF c (aC P c 124 n m) λe=>jR G N d f o p q a g e
def agW(G:ai)(N:Nat)(a:aa->aa->aa->aa->aa->aa->af->O):∀C H,aD P G N (ae (ae (ae (ae (ae (ae (ae (aq (aq (ae (aq (aq (ae (aq (ae (ae (ae (ae (ae (ae (ae (ae (aG Tryz.f121))))))))))))))))))))))) (λC H=>jR G N a (C 1) (C 2) (C 3) (C 4) (C 7) (C 13) H) [(7,(λC H=>jR G N a (C 1) (C 2) (C 3) (C 4) (C 7) (C 13) H)),(6,(λC H=>j5 G N (C 2) (C 3) (C 7) H))] (ax Tryz.f121) C H=rE G N a (C 1) (C 2) (C 3) (C 4) (C 7) (C 13) (C 18) H:=by
 refine aI (aj _) λC H=> ?_
 delta rE;generalize jR G N a=b;revert b;refine id ?_;intro b;kernel_rfl
def rD(G:ai)(N:Nat)(f:aa->aa->aa->aa->aa->aa->af->O)(i m:aa)(n o:aa)(e d:aa)(j u l:aa)(H:af):O:=ad (ak P 121 j 0) λv=>ad (ah P H 9 v) λw=>ad (al P .eql 9 V w (X [109,97,105,110])) λa=>au a V H (aV u) λk g=>au a V g (λq=>bE (a6 P .empty .len [123] [k]) (a6 P g .len [123] [k]) q) λx p=>au a V p (aE (al P .eql 3 V x (I J 0))) λy r=>ad (aU a (D y) (D (Z U))) λb=>au b V r (aE (ak P 121 j 2)) λz h=>au b V h (qr (ah P h 4 z)) λA s=>au b V s (aE (bu .not A)) λB c=>ad (aU b (D B) (D (Z U))) λC=>ay (D C) (ad (ak P 126 e 3) λE=>aF c (aC P c 3 E d) λt=>rE G N f i m n o e d l t) (rE G N f i m n o e d l c)
def agV(G:ai)(N:Nat)(a:aa->aa->aa->aa->aa->aa->af->O):∀C H,aD P G N (ae (ae (ae (ae (ae (ae (aq (aq (ae (aq (aq (ae (aq (ae (ae (ae (ae (ae (ae (ae (ae (aG Tryz.f121)))))))))))))))))))))) (λC H=>jR G N a (C 1) (C 2) (C 3) (C 4) (C 7) (C 13) H) [(7,(λC H=>jR G N a (C 1) (C 2) (C 3) (C 4) (C 7) (C 13) H)),(6,(λC H=>j5 G N (C 2) (C 3) (C 7) H))] (ax Tryz.f121) C H=rD G N a (C 1) (C 2) (C 3) (C 4) (C 7) (C 13) (C 14) (C 16) (C 18) H:=by
 refine aI ((ar j (agW G N a) (aj _))) λC H=> ?_
 delta rD;generalize rE G N a=b;revert b;refine id ?_;intro b;kernel_rfl
def rC(G:ai)(N:Nat)(p:aa->aa->aa->aa->aa->aa->af->O)(u f:aa)(g k:aa)(z v b:aa)(H:af):O:=ad (ak P 121 b 1) λC=>ad (ah P H 52 C) λE=>aw H (G 186 [k,E] H) λw A=>ad (bJ w 0) λn=>ad (bJ w 1) λF=>ba A [I J 0,I J 0] λh s=>aF s (aC P s 58 h F) λc=>ad (ak P 58 h 0) λK=>ad (ah P c 56 K) λL=>ad (al P .neq 56 V L (I J 0)) λM=>ay (D M) (aF c (aC P c 126 f (.agg [aa.ao,aa.ao,aa.ao,I J 0])) λd=>ad (ah P d 58 h) λo=>aF d (aC P d 58 g o) λa=>bif ((aJ (ah P c 58 h) o&&(aJ (ah P d 58 h) o&&V))&&V)then(ad (ah P a 126 f) λr=>ad (ah P a 58 g) λm=>D (.tuple [r,m],a))else Y) (ad (ak P 121 b 0) λQ=>ad (ah P c 9 Q) λR=>ad (ak P 121 b 2) λS=>ad (ah P c 4 S) λT=>ad (bo P 139 [(0,R),(1,n),(2,T)]) λW=>ba c [X [],aa.ao,Z U,I J 0,I J 0,I J 0] λj d=>aF d (aC P d 139 j W) λa=>ad (ak P 121 b 2) λab=>ad (ah P a 4 ab) λae=>ay (D ae) (ad (ak P 121 b 3) λaj=>ad (ah P a 114 aj) λam=>aw a (G 187 [k,am] a) λx B=>ad (bJ x 0) λan=>ad (bJ x 1) λap=>ba B [I J 0,I J 0,I J 0] λy t=>aF t (aC P t 43 y an) λe=>ad (bu .not ap) λaq=>ay (D aq) (ad (ak P 121 b 5) λar=>ad (ah P e 3 ar) λau=>aw e (G 185 [au] e) λav i=>aF i (aC P i 126 f (.agg [aa.ao,aa.ao,aa.ao,I J 0])) λq=>aF q (aC P q 58 g av) λl=>ad (ah P l 126 f) λr=>ad (ah P l 58 g) λm=>D (.tuple [r,m],l)) (ad (ah P e 43 y) λax=>ad (ak P 139 j 3) λaz=>aF e (aC P e 43 az ax) λi=>rD G N p u f g k z v b n j i)) (rD G N p u f g k z v b n j a))
def agU(G:ai)(N:Nat)(a:aa->aa->aa->aa->aa->aa->af->O):∀C H,aD P G N (ae (ae (aq (aq (ae (aq (aq (ae (aq (ae (ae (ae (ae (ae (ae (ae (ae (aG Tryz.f121)))))))))))))))))) (λC H=>jR G N a (C 1) (C 2) (C 3) (C 4) (C 7) (C 13) H) [(7,(λC H=>jR G N a (C 1) (C 2) (C 3) (C 4) (C 7) (C 13) H)),(6,(λC H=>j5 G N (C 2) (C 3) (C 7) H))] (ax Tryz.f121) C H=rC G N a (C 1) (C 2) (C 3) (C 4) (C 7) (C 13) (C 14) H:=by
 refine aI ((ar j ((ar j ((ar j ((ar j (agV G N a) (aj _))) (aj _))) (aj _))) (aj _))) λC H=> ?_
 delta rC;generalize rD G N a=b;revert b;refine id ?_;intro b;kernel_rfl
def FH(G:ai)(N:Nat)(l:aa->aa->aa->aa->aa->aa->af->O)(m:aa->aa->aa->aa->aa->aa->aa->aa->af->O)(e b:aa)(c j:aa)(k f:aa)(a g:aa)(H:af):O:=ad (al P .lss 3 U g f) λo=>ay (D o) (ad (ak P 55 e 2) λq=>ad (ah P H 53 q) λs=>ad (aH P 53 s g) λt=>ad (ak P 121 t 0) λu=>ad (ah P H 9 u) λv=>ad (ak P 121 a 0) λw=>ad (ah P H 9 w) λx=>ad (al P .eql 9 U v x) λy=>ay (D y) (ad (ak P 121 a 5) λz=>ad (ah P H 3 z) λA=>aw H (G 185 [A] H) λB h=>aF h (aC P h 126 b (.agg [aa.ao,aa.ao,aa.ao,I J 0])) λi=>aF i (aC P i 58 c B) λd=>ad (ah P d 126 b) λr=>ad (ah P d 58 c) λn=>D (.tuple [r,n],d)) (ad (al P .add 3 V g (I J 1)) λp=>m e b c j k f a p H)) (rC G N l e b c j k f a H)
def rI(G:ai)(N:Nat)(a:aa->aa->aa->aa->aa->aa->af->O):Nat->aa->aa->aa->aa->aa->aa->aa->aa->af->O
 |0,_,_,_,_,_,_,_,_,_=>Y
 |n+1,b,f,g,h,i,c,d,e,H=>FH G N a (rI G N a n) b f g h i c d e H
def agM(G:ai)(N:Nat)(a:aa->aa->aa->aa->aa->aa->af->O)(c:aa->aa->aa->aa->aa->aa->aa->aa->af->O):∀C H,aD P G N (aq (aq (ae (aq (ae (aq (aq (ae (aq (aq (ae (aq (ae (ae (ae (ae (ae (ae (ae (ae (aG Tryz.f121))))))))))))))))))))) (λC H=>c (C 1) (C 2) (C 3) (C 4) (C 7) (C 13) (C 14) (C 15) H) [(8,(λC H=>rC G N a (C 1) (C 2) (C 3) (C 4) (C 7) (C 13) (C 14) H)),(7,(λC H=>jR G N a (C 1) (C 2) (C 3) (C 4) (C 7) (C 13) H)),(6,(λC H=>j5 G N (C 2) (C 3) (C 7) H))] (ax Tryz.f121) C H=FH G N a c (C 1) (C 2) (C 3) (C 4) (C 7) (C 13) (C 14) (C 15) H:=by
 refine aI (aj _) λC H=> ?_
 delta FH;generalize rC G N a=b;revert b;refine id ?_;intro b;kernel_rfl
def FF(G:ai)(N:Nat)(h:aa->aa->aa->aa->aa->aa->af->O)(a e:aa)(f r:aa)(g b:aa)(H:af):O:=ad (ak P 55 a 2) λj=>ad (ah P H 53 j) λk=>a1 P .len [53] [k] H λl=>ad (al P .lss 3 U b l) λm=>ay (D m) (ad (ak P 55 a 2) λn=>ad (ah P H 53 n) λo=>ad (aH P 53 o b) λp=>ad (ah P H 121 p) λq=>ba H [X [],aa.ao,Z U,X [],I J 0,aa.ao,I J 0] λd c=>aF c (aC P c 121 d q) λi=>rI G N h N a e f r g b d (I J 0) i) (j5 G N e f g H)
def rH(G:ai)(N:Nat):Nat->aa->aa->aa->aa->aa->aa->af->O
 |0,_,_,_,_,_,_,_=>Y
 |n+1,a,c,d,e,f,b,H=>FF G N (rH G N n) a c d e f b H
def agL(G:ai)(N:Nat)(a:aa->aa->aa->aa->aa->aa->af->O):∀C H,aD P G N (aq (aq (ae (aq (ae (ae (ae (ae (ae (ae (ae (ae (aG Tryz.f121))))))))))))) (λC H=>a (C 1) (C 2) (C 3) (C 4) (C 7) (C 13) H) [(6,(λC H=>j5 G N (C 2) (C 3) (C 7) H))] (ax Tryz.f121) C H=FF G N a (C 1) (C 2) (C 3) (C 4) (C 7) (C 13) H:=by
 refine aI ((ar j ((ar j (agT G N a) ((aX j ((ar j ((ar j (agU G N a) ((ar j ((aX j ((a_ (k:=λm C H=>rI G N a m (C 1) (C 2) (C 3) (C 4) (C 7) (C 13) (C 14) (C 15) H) j (λC H=>j) (λm=>agM G N a (rI G N a m)))))) (aj _))))) (aj _))))))) (aj _))) λC H=> ?_
 delta FF;generalize j5 G N=b;generalize rI G N a N=c;revert b c;refine id ?_;intro b c;kernel_rfl
def rB(G:ai)(N:Nat)(i e:aa)(f j k:aa)(H:af):O:=ad (ak P 55 i 1) λo=>ad (ah P H 52 o) λp=>aw H (G 186 [j,p] H) λl m=>ad (bJ l 0) λq=>ad (bJ l 1) λs=>ba m [I J 0,I J 0] λc h=>aF h (aC P h 58 c s) λa=>ad (ak P 58 c 0) λt=>ad (ah P a 56 t) λu=>ad (al P .neq 56 V u (I J 0)) λv=>ay (D v) (aF a (aC P a 126 e (.agg [aa.ao,aa.ao,aa.ao,I J 0])) λb=>ad (ah P b 58 c) λg=>aF b (aC P b 58 f g) λd=>bif ((aJ (ah P a 58 c) g&&(aJ (ah P b 58 c) g&&V))&&V)then(ad (ah P d 126 e) λr=>ad (ah P d 58 f) λn=>D (.tuple [r,n],d))else Y) (ad (ak P 126 k 1) λw=>aF a (aC P a 123 w q) λb=>rH G N N i e f j k (I J 0) b)
def agR(G:ai)(N:Nat):∀C H,aD P G N (ae (ae (ae (ae (ae (aG Tryz.f121)))))) (ax Tryz.f121) [] (ax Tryz.f121) C H=rB G N (C 1) (C 2) (C 3) (C 4) (C 7) H:=by
 refine aI ((ar j ((ar j ((ar j ((ar j (agS G N) ((ar j ((aX j ((a_ (k:=λm C H=>rH G N m (C 1) (C 2) (C 3) (C 4) (C 7) (C 13) H) j (λC H=>j) (λm=>agL G N (rH G N m)))))) (aj _))))) (aj _))) (aj _))) (aj _))) λC H=> ?_
 delta rB;generalize rH G N N=a;revert a;refine id ?_;intro a;kernel_rfl
def FI(G:ai)(N:Nat)(p:aa->aa->aa->aa->aa->aa->af->O)(e f:aa)(g h:aa)(i j:aa)(H:af):O:=ad (ak P 55 e 0) λu=>ad (ah P H 51 u) λv=>a1 P .len [51] [v] H λw=>ad (al P .lss 3 U j w) λx=>ay (D x) (ad (ak P 55 e 0) λz=>ad (ah P H 51 z) λA=>ad (aH P 51 A j) λB=>ad (ak P 111 B 1) λC=>ad (ah P H 52 C) λE=>aw H (G 186 [h,E] H) λo q=>ad (bJ o 0) λF=>ad (bJ o 1) λK=>ba q [I J 0,I J 0] λd n=>aF n (aC P n 58 d K) λa=>ad (ak P 58 d 0) λL=>ad (ah P a 56 L) λM=>ad (al P .neq 56 V M (I J 0)) λQ=>ay (D Q) (aF a (aC P a 126 f (.agg [aa.ao,aa.ao,aa.ao,I J 0])) λb=>ad (ah P b 58 d) λk=>aF b (aC P b 58 g k) λc=>bif ((aJ (ah P a 58 d) k&&(aJ (ah P b 58 d) k&&V))&&V)then(ad (ah P c 126 f) λr=>ad (ah P c 58 g) λt=>D (.tuple [r,t],c))else Y) (ad (ak P 126 i 0) λl=>ad (ah P a 22 l) λm=>ad (aH P 77 h j) λR=>ad (ah P a 9 R) λS=>ad (bo P 158 [(0,S),(1,F)]) λT=>aK a (bd P (a).next 22 1 [(0,T)]) λW b=>aw b (bx P b [22,22] m W) λab c=>ad (ak P 126 i 0) λae=>aF c (aC P c 22 ae ab) λs=>bif ((aJ (ah P a 22 l) m&&(aJ (ah P b 22 l) m&&V))&&V)then(ad (al P .add 3 V j (I J 1)) λy=>p e f g h i y s)else Y)) (rB G N e f g h i H)
def rJ(G:ai)(N:Nat):Nat->aa->aa->aa->aa->aa->aa->af->O
 |0,_,_,_,_,_,_,_=>Y
 |n+1,a,b,c,d,e,f,H=>FI G N (rJ G N n) a b c d e f H
def agN(G:ai)(N:Nat)(b:aa->aa->aa->aa->aa->aa->af->O):∀C H,aD P G N (aq (aq (ae (aq (ae (ae (ae (ae (aG Tryz.f121))))))))) (λC H=>b (C 1) (C 2) (C 3) (C 4) (C 7) (C 8) H) [(4,(λC H=>rB G N (C 1) (C 2) (C 3) (C 4) (C 7) H))] (ax Tryz.f121) C H=FI G N b (C 1) (C 2) (C 3) (C 4) (C 7) (C 8) H:=by
 refine aI (aj _) λC H=> ?_
 delta FI;generalize rB G N=a;revert a;refine id ?_;intro a;kernel_rfl
def m0(G:ai)(N:Nat)(d e:aa)(f g:aa)(H:af):O:=ba H [aa.ao,aa.ao,aa.ao,I J 0] λb a=>aF a (aC P a 126 b (.agg [aa.ao,aa.ao,aa.ao,(I J (-1))])) λc=>rJ G N N d e f g b (I J 0) c
def agP(G:ai)(N:Nat):∀C H,aD P G N (ae (ae (ae (aG Tryz.f121)))) (ax Tryz.f121) [] (ax Tryz.f121) C H=m0 G N (C 1) (C 2) (C 3) (C 4) H:=by
 refine aI ((ar j ((ar j (agR G N) ((ar j ((aX j ((a_ (k:=λm C H=>rJ G N m (C 1) (C 2) (C 3) (C 4) (C 7) (C 8) H) j (λC H=>j) (λm=>agN G N (rJ G N m)))))) (aj _))))) (aj _))) λC H=> ?_
 delta m0;generalize rJ G N N=a;revert a;refine id ?_;intro a;kernel_rfl
def o2(G:ai)(N:Nat)(a:aa->aa->aa->aa->aa->af->O)(b c:aa)(e f g:aa)(H:af):O:=ad (al P .add 3 V g (I J 1)) λd=>a b c e f d H
def agQ(G:ai)(N:Nat)(a:aa->aa->aa->aa->aa->af->O):∀C H,aD P G N (ae (ae (aq (aq (ae (aq (ae (ae (aG Tryz.f121))))))))) (λC H=>a (C 1) (C 2) (C 3) (C 4) (C 5) H) [(0,(λC H=>m0 G N (C 1) (C 2) (C 3) (C 4) H))] (ax Tryz.f121) C H=o2 G N a (C 1) (C 2) (C 3) (C 4) (C 5) H:=by
 refine aI (aj _) λC H=> ?_
 delta o2;kernel_rfl
def FE(G:ai)(N:Nat)(j:aa->aa->aa->aa->aa->af->O)(k:aa->aa->aa->aa->aa->aa->af->O)(f b:aa)(c d:aa)(a g:aa)(H:af):O:=ad (al P .lss 3 U g a) λm=>ay (D m) (ad (aH P 77 d g) λo=>ad (ah P H 9 o) λp=>ad (aH P 77 d a) λq=>ad (ah P H 9 q) λs=>ad (al P .eql 9 U p s) λt=>ay (D t) (ad (ak P 55 f 0) λu=>ad (ah P H 51 u) λv=>ad (aH P 51 v a) λw=>ad (ak P 111 w 2) λx=>ad (ah P H 3 x) λy=>aw H (G 185 [y] H) λz h=>aF h (aC P h 126 b (.agg [aa.ao,aa.ao,aa.ao,I J 0])) λi=>aF i (aC P i 58 c z) λe=>ad (ah P e 126 b) λr=>ad (ah P e 58 c) λl=>D (.tuple [r,l],e)) (ad (al P .add 3 V g (I J 1)) λn=>k f b c d a n H)) (o2 G N j f b c d a H)
def rG(G:ai)(N:Nat)(a:aa->aa->aa->aa->aa->af->O):Nat->aa->aa->aa->aa->aa->aa->af->O
 |0,_,_,_,_,_,_,_=>Y
 |n+1,b,c,d,e,f,g,H=>FE G N a (rG G N a n) b c d e f g H
def agK(G:ai)(N:Nat)(a:aa->aa->aa->aa->aa->af->O)(c:aa->aa->aa->aa->aa->aa->af->O):∀C H,aD P G N (aq (aq (ae (aq (aq (ae (aq (aq (ae (aq (ae (ae (aG Tryz.f121))))))))))))) (λC H=>c (C 1) (C 2) (C 3) (C 4) (C 5) (C 6) H) [(2,(λC H=>o2 G N a (C 1) (C 2) (C 3) (C 4) (C 5) H)),(1,(λC H=>o2 G N a (C 1) (C 2) (C 3) (C 4) (C 5) H)),(0,(λC H=>m0 G N (C 1) (C 2) (C 3) (C 4) H))] (ax Tryz.f121) C H=FE G N a c (C 1) (C 2) (C 3) (C 4) (C 5) (C 6) H:=by
 refine aI (aj _) λC H=> ?_
 delta FE;generalize o2 G N a=b;revert b;refine id ?_;intro b;kernel_rfl
def FD(G:ai)(N:Nat)(f:aa->aa->aa->aa->aa->af->O)(b c:aa)(d a e:aa)(H:af):O:=a1 P .len [77] [a] H λg=>ad (al P .lss 3 U e g) λh=>ay (D h) (rG G N f N b c d a e (I J 0) H) (m0 G N b c d a H)
def rF(G:ai)(N:Nat):Nat->aa->aa->aa->aa->aa->af->O
 |0,_,_,_,_,_,_=>Y
 |n+1,a,b,c,d,e,H=>FD G N (rF G N n) a b c d e H
def agJ(G:ai)(N:Nat)(a:aa->aa->aa->aa->aa->af->O):∀C H,aD P G N (aq (aq (ae (aq (ae (ae (aG Tryz.f121))))))) (λC H=>a (C 1) (C 2) (C 3) (C 4) (C 5) H) [(0,(λC H=>m0 G N (C 1) (C 2) (C 3) (C 4) H))] (ax Tryz.f121) C H=FD G N a (C 1) (C 2) (C 3) (C 4) (C 5) H:=by
 refine aI ((ar j ((ar j (agQ G N a) ((aX j ((ar j ((aX j ((a_ (k:=λm C H=>rG G N a m (C 1) (C 2) (C 3) (C 4) (C 5) (C 6) H) j (λC H=>j) (λm=>agK G N a (rG G N a m)))))) (aj _))))))) (aj _))) λC H=> ?_
 delta FD;generalize m0 G N=b;generalize rG G N a N=c;revert b c;refine id ?_;intro b c;kernel_rfl
def zJ(G:ai)(N:Nat)(f:aa)(H:af):O:=aK H (bl (H).next f) λb c=>ba c [aa.ao,aa.ao,aa.ao,I J 0] λg d=>ba d [I J 0,I J 0] λj a=>ad (ah P a 55 b) λh=>aw a (G 122 [h] a) λi e=>rF G N N b g j i (I J 0) e
def agO(G:ai)(N:Nat)(b:aa)(H:af):aB Tryz.f121 G N (aO [b]) H=zJ G N b H:=by
 refine aT (A:=aB Tryz.f121 G N) ((ar j ((ar j ((ar j (agP G N) ((ar j ((aX j ((a_ (k:=λm C H=>rF G N m (C 1) (C 2) (C 3) (C 4) (C 5) H) j (λC H=>j) (λm=>agJ G N (rF G N m)))))) (aj _))))) (aj _))) (aj _))) ?_;delta zJ;generalize rF G N N=a;revert a;refine id ?_;intro a;kernel_rfl
def rK(G:ai)(N:Nat)(a:aa)(H:af):O:=some (a,H)
def agZ(G:ai)(N:Nat):∀C H,aD P G N (ae (ae (ae (aG Tryz.f122)))) (ax Tryz.f122) [] (ax Tryz.f122) C H=rK G N (C 3) H:=by
 refine aI (aj _) λC H=> ?_
 delta rK;kernel_rfl
def FJ(G:ai)(N:Nat)(e:aa->aa->aa->af->O)(a d b:aa)(H:af):O:=ad (ak P 55 a 0) λo=>ad (ah P H 51 o) λp=>a1 P .len [51] [p] H λq=>ad (al P .lss 3 U b q) λr=>ay (D r) (ad (ak P 55 a 0) λh=>ad (ah P H 51 h) λi=>ad (aH P 51 i b) λj=>ad (ak P 111 j 0) λk=>ad (ah P H 9 k) λl=>aK H (bd P (H).next 77 1 [(0,l)]) λm c=>aw c (bx P c [77,77] d m) λn f=>ad (al P .add 3 V b (I J 1)) λg=>e a n g f) (rK G N d H)
def rL(G:ai)(N:Nat):Nat->aa->aa->aa->af->O
 |0,_,_,_,_=>Y
 |n+1,a,b,c,H=>FJ G N (rL G N n) a b c H
def agX(G:ai)(N:Nat)(b:aa->aa->aa->af->O):∀C H,aD P G N (aq (aq (ae (aq (ae (ae (aG Tryz.f122))))))) (λC H=>b (C 1) (C 3) (C 4) H) [(0,(λC H=>rK G N (C 3) H))] (ax Tryz.f122) C H=FJ G N b (C 1) (C 3) (C 4) H:=by
 refine aI (aj _) λC H=> ?_
 delta FJ;generalize rK G N=a;revert a;refine id ?_;intro a;kernel_rfl
def zK(G:ai)(N:Nat)(b:aa)(H:af):O:=aK H (bl (H).next b) λc a=>rL G N N c aa.ao (I J 0) a
def agY(G:ai)(N:Nat)(b:aa)(H:af):aB Tryz.f122 G N (aO [b]) H=zK G N b H:=by
 refine aT (A:=aB Tryz.f122 G N) ((ar j ((ar j ((ar j (agZ G N) ((ar j ((aX j ((a_ (k:=λm C H=>rL G N m (C 1) (C 3) (C 4) H) j (λC H=>j) (λm=>agX G N (rL G N m)))))) (aj _))))) (aj _))) (aj _))) ?_;delta zK;generalize rL G N N=a;revert a;refine id ?_;intro a;kernel_rfl
def rM(G:ai)(N:Nat)(a:aa)(H:af):O:=some (a,H)
def ag2(G:ai)(N:Nat):∀C H,aD P G N (ae (ae (ae (aG Tryz.f123)))) (ax Tryz.f123) [] (ax Tryz.f123) C H=rM G N (C 5) H:=by
 refine aI (aj _) λC H=> ?_
 delta rM;kernel_rfl
def FK(G:ai)(N:Nat)(j:aa->aa->aa->aa->af->O)(c d:aa)(i f:aa)(H:af):O:=a1 P .len [119] [d] H λv=>ad (al P .lss 3 U f v) λe=>au e V H (aV c) λl b=>au e V b (λq=>bq b (G 124 [l] b) q) λm a=>ad (aU e (D m) (D (Z U))) λn=>ay (D n) (ad (aH P 119 d f) λp=>ad (ah P a 207 p) λr=>aw a (G 188 [c,r] a) λs g=>aK g (bd P (g).next 119 1 [(0,s)]) λt h=>aw h (bx P h [119,119] i t) λu k=>ad (al P .add 3 V f (I J 1)) λo=>j c d u o k) (rM G N i a)
def rN(G:ai)(N:Nat):Nat->aa->aa->aa->aa->af->O
 |0,_,_,_,_,_=>Y
 |n+1,a,b,c,d,H=>FK G N (rN G N n) a b c d H
def ag0(G:ai)(N:Nat)(b:aa->aa->aa->aa->af->O):∀C H,aD P G N (aq (aq (ae (aq (ae (ae (aG Tryz.f123))))))) (λC H=>b (C 0) (C 1) (C 5) (C 6) H) [(0,(λC H=>rM G N (C 5) H))] (ax Tryz.f123) C H=FK G N b (C 0) (C 1) (C 5) (C 6) H:=by
 refine aI (aj _) λC H=> ?_
 delta FK;generalize rM G N=a;revert a;refine id ?_;intro a;kernel_rfl
def zL(G:ai)(N:Nat)(a b:aa)(H:af):O:=rN G N N a b aa.ao (I J 0) H
def ag1(G:ai)(N:Nat)(b:aa)(c:aa)(H:af):aB Tryz.f123 G N (aO [b,c]) H=zL G N b c H:=by
 refine aT (A:=aB Tryz.f123 G N) ((ar j ((ar j ((ar j (ag2 G N) ((ar j ((aX j ((a_ (k:=λm C H=>rN G N m (C 0) (C 1) (C 5) (C 6) H) j (λC H=>j) (λm=>ag0 G N (rN G N m)))))) (aj _))))) (aj _))) (aj _))) ?_;delta zL;generalize rN G N N=a;revert a;refine id ?_;intro a;kernel_rfl
def zM(G:ai)(a:aa)(H:af):O:=ad (aL a) λb=>ad (ak P 199 b 4) λc=>ad (ak P 58 c 0) λd=>ad (ah P H 56 d) λe=>ad (al P .eql 56 V e (I J 0)) λf=>D (f,H)
def ag3(G:ai)(N:Nat)(a:aa)(H:af):aB Tryz.f124 G N (aO [a]) H=zM G a H:=by
 refine aT (A:=aB Tryz.f124 G N) (aj _) ?_;delta zM;kernel_rfl
def hy(G:ai)(N:Nat)(a:aa->aa->aa->af->O)(b c e:aa)(H:af):O:=ad (al P .add 3 V e (I J 1)) λd=>a b c d H
def ag8(G:ai)(N:Nat)(a:aa->aa->aa->af->O):∀C H,aD P G N (ae (ae (aq (aq (ae (aG Tryz.f125)))))) (λC H=>a (C 0) (C 1) (C 4) H) [(0,(ax Tryz.f125))] (ax Tryz.f125) C H=hy G N a (C 0) (C 1) (C 4) H:=by
 refine aI (aj _) λC H=> ?_
 delta hy;kernel_rfl
def FM(G:ai)(N:Nat)(u:aa->aa->aa->af->O)(v:aa->aa->aa->aa->aa->af->O)(a l:aa)(s t b:aa)(H:af):O:=ad (aL a) λw=>ad (ak P 203 w 0) λx=>ad (ah P H 95 x) λz=>a1 P .len [95] [z] H λA=>ad (al P .lss 3 U b A) λB=>ay (D B) (ad (aL a) λm=>ad (ak P 203 m 0) λh=>ad (ah P H 95 h) λn=>ad (aL a) λo=>ad (ak P 203 o 0) λi=>ad (ah P H 95 i) λp=>ad (aH P 95 p b) λj=>ad (ah P H 4 j) λc=>aM c V (aV t) λe=>aM c V (aV b) λf=>aM c V (aE (aH P 95 e.val f.val)) λd=>aM c V (qr (ah P (d.heap (f.heap (e.heap H))) 4 d.val)) λg=>ad (aU c (D g.val) (D (Z U))) λq=>ad (aH P 95 n b) λr=>h7 (g.heap (d.heap (f.heap (e.heap H)))) (aC P (g.heap (d.heap (f.heap (e.heap H)))) 4 r q) λy k=>bif dF [0,1,3,7,0,0,32,96,224,0,992,2016,4064,8160,8160,32736,65504,131040,262143,524287] [0,1,2,3,4,5,6,7,8,9,10,11,12,13,14,15,16,17,18,19] [⟨0,.pure a,λH=>Y⟩,⟨1,.pure m,λH=>Y⟩,⟨2,.pure h,λH=>Y⟩,⟨3,.read n,λH=>ah P H 95 h⟩,⟨4,.pure b,λH=>Y⟩,⟨5,.pure a,λH=>Y⟩,⟨6,.pure o,λH=>Y⟩,⟨7,.pure i,λH=>Y⟩,⟨8,.read p,λH=>ah P H 95 i⟩,⟨9,.pure b,λH=>Y⟩,⟨10,.pure j,λH=>Y⟩,⟨11,.read c,λH=>ah P H 4 j⟩,⟨12,.pure c,λH=>Y⟩,⟨13,e,λH=>Y⟩,⟨14,f,λH=>Y⟩,⟨15,d,λH=>Y⟩,⟨16,g,λH=>ah P H 4 d.val⟩,⟨17,.pure q,λH=>Y⟩,⟨18,.pure r,λH=>Y⟩,⟨19,.bs y k,λH=>Y⟩] H then(ad (al P .add 3 V b (I J 1)) λC=>v a l s t C k)else Y) (hy G N u a l s H)
def rQ(G:ai)(N:Nat)(a:aa->aa->aa->af->O):Nat->aa->aa->aa->aa->aa->af->O
 |0,_,_,_,_,_,_=>Y
 |n+1,b,c,e,f,d,H=>FM G N a (rQ G N a n) b c e f d H
def ag5(G:ai)(N:Nat)(a:aa->aa->aa->af->O)(c:aa->aa->aa->aa->aa->af->O):∀C H,aD P G N (aq (aq (ae (ae (ae (ae (ae (ae (aq (ae (ae (ae (ae (ae (ae (ae (ae (ae (ae (ae (aq (ae (ae (ae (aq (aq (ae (aq (aq (ae (aG Tryz.f125))))))))))))))))))))))))))))))) (λC H=>c (C 0) (C 1) (C 4) (C 9) (C 10) H) [(5,(λC H=>hy G N a (C 0) (C 1) (C 4) H)),(4,(λC H=>hy G N a (C 0) (C 1) (C 4) H)),(1,(λC H=>hy G N a (C 0) (C 1) (C 4) H)),(0,(ax Tryz.f125))] (ax Tryz.f125) C H=FM G N a c (C 0) (C 1) (C 4) (C 9) (C 10) H:=by
 refine aI (aj _) λC H=> ?_
 delta FM;generalize hy G N a=b;revert b;refine id ?_;intro b;kernel_rfl
def rO(G:ai)(N:Nat)(c:aa->aa->aa->af->O)(a d:aa)(e f:aa)(H:af):O:=ad (ak P 207 f 0) λp=>ad (ah P H 3 p) λh=>ad (al P .eql 3 V h (I J 1)) λq=>ay (D q) (ad (aL a) λr=>ad (ak P 203 r 0) λs=>ad (ah P H 95 s) λt=>ad (ak P 207 f 7) λu=>ad (ah P H 3 u) λv=>ad (aH P 95 t v) λw=>aF H (aC P H 4 w (Z U)) λb=>hy G N c a d e b) (ad (al P .eql 3 V h (I J 2)) λx=>ay (D x) (ad (aL a) λy=>ad (ak P 203 y 0) λz=>ad (ah P H 95 z) λA=>ad (ak P 207 f 7) λB=>ad (ah P H 3 B) λC=>ad (aH P 95 A C) λE=>aF H (aC P H 4 E (Z V)) λb=>hy G N c a d e b) (ad (al P .eql 3 V h (I J 3)) λF=>ay (D F) (ad (ak P 207 f 7) λK=>ad (ah P H 3 K) λL=>ad (al P .geq 3 V L (I J 0)) λM=>ay (D M) (ad (aL a) λQ=>ad (ak P 203 Q 0) λR=>ad (ah P H 95 R) λS=>ad (ak P 207 f 7) λT=>ad (ah P H 3 T) λW=>ad (aH P 95 S W) λab=>aF H (aC P H 4 ab (Z V)) λb=>hy G N c a d e b) (hy G N c a d e H)) (ad (al P .eql 3 V h (I J 7)) λae=>ay (D ae) (aw H (G 190 [a] H) λaN b=>hy G N c a d e b) (ad (al P .eql 3 V h (I J 6)) λaj=>ay (D aj) (ad (aL a) λam=>ad (ak P 203 am 0) λan=>ad (ah P H 95 an) λap=>aw H (bx P H [95,95] aa.ao ap) λaq b=>ad (ak P 207 f 4) λar=>ad (ah P b 119 ar) λau=>aw b (G 125 [a,au] b) λaO g=>ad (aL a) λav=>ad (ak P 203 av 0) λax=>aF g (aC P g 95 ax aq) λi=>hy G N c a d e i) (ad (al P .eql 3 V h (I J 5)) λaz=>ay (D az) (ad (aL a) λaA=>ad (ak P 203 aA 0) λaB=>ad (ah P H 95 aB) λaD=>aw H (bx P H [95,95] aa.ao aD) λaE b=>ad (ak P 207 f 4) λaG=>ad (ah P b 119 aG) λaI=>aw b (G 125 [a,aI] b) λaP g=>ad (aL a) λaJ=>ad (ak P 203 aJ 0) λaK=>ad (ah P g 95 aK) λk=>ad (aL a) λl=>ad (ak P 203 l 0) λm=>aF g (aC P g 95 m aE) λi=>ad (ak P 207 f 5) λn=>ad (ah P i 119 n) λo=>aw i (G 125 [a,o] i) λaM j=>rQ G N c N a d e k (I J 0) j) (hy G N c a d e H))))))
def ag9(G:ai)(N:Nat)(a:aa->aa->aa->af->O):∀C H,aD P G N (ae (ae (aq (aq (ae (aq (aq (ae (aG Tryz.f125))))))))) (λC H=>hy G N a (C 0) (C 1) (C 4) H) [(1,(λC H=>hy G N a (C 0) (C 1) (C 4) H)),(0,(ax Tryz.f125))] (ax Tryz.f125) C H=rO G N a (C 0) (C 1) (C 4) (C 5) H:=by
 refine aI ((ar j ((aX j ((ar j ((bz j (aj _) ((ar j ((bz j (aj _) ((ar j ((bz j (aj _) ((ar j ((bz j (aj _) ((ar j ((bz j (aj _) ((ar j ((bz j ((ar j ((ar j ((ar j ((ar j ((ar j ((ar j ((aX j ((a_ (k:=λm C H=>rQ G N a m (C 0) (C 1) (C 4) (C 9) (C 10) H) j (λC H=>j) (λm=>ag5 G N a (rQ G N a m)))))) (aj _))) (aj _))) (aj _))) (aj _))) (aj _))) (aj _))) (aj _))) (aj _))))) (aj _))))) (aj _))))) (aj _))))) (aj _))))) (aj _))))) (aj _))) λC H=> ?_
 delta rO;generalize rQ G N a N=b;generalize hy G N a=c;revert b c;refine id ?_;intro b c;kernel_rfl
def FN(G:ai)(N:Nat)(f:aa->aa->aa->af->O)(g:aa->aa->aa->aa->aa->af->O)(b d:aa)(e a c:aa)(H:af):O:=ad (ak P 207 a 3) λi=>ad (ah P H 205 i) λj=>a1 P .len [205] [j] H λk=>ad (al P .lss 3 U c k) λl=>ay (D l) (ad (ak P 207 a 3) λn=>ad (ah P H 205 n) λo=>ad (aH P 205 o c) λp=>ad (ah P H 267 p) λq=>aw H (G 189 [b,q] H) λr h=>ad (al P .add 3 V c (I J 1)) λm=>g b d e a m h) (rO G N f b d e a H)
def rR(G:ai)(N:Nat)(a:aa->aa->aa->af->O):Nat->aa->aa->aa->aa->aa->af->O
 |0,_,_,_,_,_,_=>Y
 |n+1,b,c,d,e,f,H=>FN G N a (rR G N a n) b c d e f H
def ag6(G:ai)(N:Nat)(a:aa->aa->aa->af->O)(c:aa->aa->aa->aa->aa->af->O):∀C H,aD P G N (aq (aq (ae (aq (ae (aq (aq (ae (aq (aq (ae (aG Tryz.f125)))))))))))) (λC H=>c (C 0) (C 1) (C 4) (C 5) (C 6) H) [(2,(λC H=>rO G N a (C 0) (C 1) (C 4) (C 5) H)),(1,(λC H=>hy G N a (C 0) (C 1) (C 4) H)),(0,(ax Tryz.f125))] (ax Tryz.f125) C H=FN G N a c (C 0) (C 1) (C 4) (C 5) (C 6) H:=by
 refine aI (aj _) λC H=> ?_
 delta FN;generalize rO G N a=b;revert b;refine id ?_;intro b;kernel_rfl
def FL(G:ai)(N:Nat)(e:aa->aa->aa->af->O)(g a b:aa)(H:af):O:=a1 P .len [119] [a] H λh=>ad (al P .lss 3 U b h) λi=>ay (D i) (ad (aH P 119 a b) λj=>ad (ah P H 207 j) λk=>ba H [I J 0,X [],X [],I J 0,aa.ao,aa.ao,aa.ao,I J 0,I J 0] λd c=>aF c (aC P c 207 d k) λf=>rR G N e N g a b d (I J 0) f) (D (.tuple [],H))
def rP(G:ai)(N:Nat):Nat->aa->aa->aa->af->O
 |0,_,_,_,_=>Y
 |n+1,a,b,c,H=>FL G N (rP G N n) a b c H
def ag4(G:ai)(N:Nat)(a:aa->aa->aa->af->O):∀C H,aD P G N (aq (aq (ae (aG Tryz.f125)))) (λC H=>a (C 0) (C 1) (C 4) H) [(0,(ax Tryz.f125))] (ax Tryz.f125) C H=FL G N a (C 0) (C 1) (C 4) H:=by
 refine aI ((ar j ((ar j (ag8 G N a) ((aX j ((ar j ((ar j (ag9 G N a) ((ar j ((aX j ((a_ (k:=λm C H=>rR G N a m (C 0) (C 1) (C 4) (C 5) (C 6) H) j (λC H=>j) (λm=>ag6 G N a (rR G N a m)))))) (aj _))))) (aj _))))))) (aj _))) λC H=> ?_
 delta FL;generalize rR G N a N=b;revert b;refine id ?_;intro b;kernel_rfl
def zN(G:ai)(N:Nat)(a b:aa)(H:af):O:=rP G N N a b (I J 0) H
def ag7(G:ai)(N:Nat)(b:aa)(c:aa)(H:af):aB Tryz.f125 G N (aO [b,c]) H=zN G N b c H:=by
 refine aT (A:=aB Tryz.f125 G N) ((ar j ((aX j ((a_ (k:=λm C H=>rP G N m (C 0) (C 1) (C 4) H) j (λC H=>j) (λm=>ag4 G N (rP G N m)))))) (aj _))) ?_;delta zN;generalize rP G N N=a;revert a;refine id ?_;intro a;kernel_rfl
def As(G:ai)(d:aa)(H:af):O:=ba H [I J 0,I J 0] λc a=>ad (bo P 58 [(0,(I J 3)),(1,d)]) λe=>aF a (aC P a 58 c e) λb=>ad (ah P b 58 c) λr=>D (r,b)
def aiO(G:ai)(N:Nat)(a:aa)(H:af):aB Tryz.f185 G N (aO [a]) H=As G a H:=by
 refine aT (A:=aB Tryz.f185 G N) (aj _) ?_;delta As;kernel_rfl
def l2(G:ai)(N:Nat)(b c:aa)(H:af):O:=aF H (aC P H 58 b (.agg [I J 0,I J 0])) λa=>ad (ah P a 58 b) λr=>D (.tuple [c,r],a)
def aiS(G:ai)(N:Nat):∀C H,aD P G N (ae (ae (ae (aG Tryz.f186)))) (ax Tryz.f186) [] (ax Tryz.f186) C H=l2 G N (C 5) (C 6) H:=by
 refine aI (aj _) λC H=> ?_
 delta l2;kernel_rfl
def m3(G:ai)(N:Nat)(a:aa->aa->aa->aa->aa->af->O)(b c:aa)(e f g:aa)(H:af):O:=ad (al P .add 3 V g (I J 1)) λd=>a b c e f d H
def aiT(G:ai)(N:Nat)(a:aa->aa->aa->aa->aa->af->O):∀C H,aD P G N (ae (ae (aq (aq (ae (aq (ae (ae (aG Tryz.f186))))))))) (λC H=>a (C 0) (C 1) (C 5) (C 6) (C 7) H) [(0,(λC H=>l2 G N (C 5) (C 6) H))] (ax Tryz.f186) C H=m3 G N a (C 0) (C 1) (C 5) (C 6) (C 7) H:=by
 refine aI (aj _) λC H=> ?_
 delta m3;kernel_rfl
def sO(G:ai)(N:Nat)(f:aa->aa->aa->aa->aa->af->O)(g c:aa)(d p:aa)(e v w:aa)(H:af):O:=ad (bu .not w) λh=>ay (D h) (ad (aH P 52 c e) λi=>ad (ak P 116 i 2) λj=>ad (ah P H 3 j) λk=>aw H (G 185 [k] H) λl a=>aF a (aC P a 58 d l) λb=>ad (ah P b 58 d) λr=>D (.tuple [aa.ao,r],b)) (ad (aH P 52 c e) λm=>ad (ak P 116 m 0) λn=>ad (ah P H 9 n) λo=>ad (ah P H 43 v) λq=>ad (bo P 135 [(0,o),(1,q)]) λs=>aK H (bd P (H).next 123 1 [(0,s)]) λt a=>aw a (bx P a [123,123] p t) λu b=>m3 G N f g c d u e b)
def aiU(G:ai)(N:Nat)(a:aa->aa->aa->aa->aa->af->O):∀C H,aD P G N (ae (ae (aq (aq (ae (aq (aq (ae (aq (ae (ae (aG Tryz.f186)))))))))))) (λC H=>m3 G N a (C 0) (C 1) (C 5) (C 6) (C 7) H) [(1,(λC H=>m3 G N a (C 0) (C 1) (C 5) (C 6) (C 7) H)),(0,(λC H=>l2 G N (C 5) (C 6) H))] (ax Tryz.f186) C H=sO G N a (C 0) (C 1) (C 5) (C 6) (C 7) (C 8) (C 9) H:=by
 refine aI (aj _) λC H=> ?_
 delta sO;generalize m3 G N a=b;revert b;refine id ?_;intro b;kernel_rfl
def Gg(G:ai)(N:Nat)(k:aa->aa->aa->aa->aa->af->O)(l:aa->aa->aa->aa->aa->aa->aa->aa->af->O)(g b:aa)(h i:aa)(c j:aa)(a d:aa)(H:af):O:=ad (al P .lss 3 U d c) λv=>ay (D v) (au a V H (aV b) λx m=>au a V m (aV d) λy p=>au a V p (aE (aH P 52 x y)) λz q=>au a V q (aE (ak P 116 z 0)) λA e=>au a V e (qr (ah P e 9 A)) λB r=>au a V r (aV b) λC s=>au a V s (aV c) λE t=>au a V t (aE (aH P 52 C E)) λF u=>au a V u (aE (ak P 116 F 0)) λK f=>au a V f (qr (ah P f 9 K)) λL n=>au a V n (aE (al P .neq 9 U B L)) λM o=>ad (aU a (D M) (D (Z U))) λQ=>ad (al P .add 3 V d (I J 1)) λw=>l g b h i c j Q w o) (sO G N k g b h i c j a H)
def sQ(G:ai)(N:Nat)(a:aa->aa->aa->aa->aa->af->O):Nat->aa->aa->aa->aa->aa->aa->aa->aa->af->O
 |0,_,_,_,_,_,_,_,_,_=>Y
 |n+1,b,c,e,f,g,h,i,d,H=>Gg G N a (sQ G N a n) b c e f g h i d H
def aiQ(G:ai)(N:Nat)(a:aa->aa->aa->aa->aa->af->O)(c:aa->aa->aa->aa->aa->aa->aa->aa->af->O):∀C H,aD P G N (aq (aq (ae (aq (ae (aq (aq (ae (aq (aq (ae (aq (ae (ae (aG Tryz.f186))))))))))))))) (λC H=>c (C 0) (C 1) (C 5) (C 6) (C 7) (C 8) (C 9) (C 10) H) [(2,(λC H=>sO G N a (C 0) (C 1) (C 5) (C 6) (C 7) (C 8) (C 9) H)),(1,(λC H=>m3 G N a (C 0) (C 1) (C 5) (C 6) (C 7) H)),(0,(λC H=>l2 G N (C 5) (C 6) H))] (ax Tryz.f186) C H=Gg G N a c (C 0) (C 1) (C 5) (C 6) (C 7) (C 8) (C 9) (C 10) H:=by
 refine aI (aj _) λC H=> ?_
 delta Gg;generalize sO G N a=b;revert b;refine id ?_;intro b;kernel_rfl
def Gf(G:ai)(N:Nat)(i:aa->aa->aa->aa->aa->af->O)(d a:aa)(f g b:aa)(H:af):O:=a1 P .len [52] [a] H λl=>ad (al P .lss 3 U b l) λm=>ay (D m) (ad (aH P 52 a b) λn=>ad (ak P 116 n 1) λo=>ad (ah P H 114 o) λp=>aw H (G 187 [d,p] H) λe j=>ad (bJ e 0) λq=>ad (bJ e 1) λr=>ba j [I J 0,I J 0,I J 0] λh c=>aF c (aC P c 43 h q) λk=>sQ G N i N d a f g b h r (I J 0) k) (l2 G N f g H)
def sP(G:ai)(N:Nat):Nat->aa->aa->aa->aa->aa->af->O
 |0,_,_,_,_,_,_=>Y
 |n+1,a,b,c,d,e,H=>Gf G N (sP G N n) a b c d e H
def aiP(G:ai)(N:Nat)(a:aa->aa->aa->aa->aa->af->O):∀C H,aD P G N (aq (aq (ae (aq (ae (ae (aG Tryz.f186))))))) (λC H=>a (C 0) (C 1) (C 5) (C 6) (C 7) H) [(0,(λC H=>l2 G N (C 5) (C 6) H))] (ax Tryz.f186) C H=Gf G N a (C 0) (C 1) (C 5) (C 6) (C 7) H:=by
 refine aI ((ar j ((ar j (aiT G N a) ((aX j ((ar j ((ar j (aiU G N a) ((ar j ((aX j ((a_ (k:=λm C H=>sQ G N a m (C 0) (C 1) (C 5) (C 6) (C 7) (C 8) (C 9) (C 10) H) j (λC H=>j) (λm=>aiQ G N a (sQ G N a m)))))) (aj _))))) (aj _))))))) (aj _))) λC H=> ?_
 delta Gf;generalize l2 G N=b;generalize sQ G N a N=c;revert b c;refine id ?_;intro b c;kernel_rfl
def Au(G:ai)(N:Nat)(b c:aa)(H:af):O:=ba H [I J 0,I J 0] λd a=>sP G N N b c d aa.ao (I J 0) a
def aiR(G:ai)(N:Nat)(b:aa)(c:aa)(H:af):aB Tryz.f186 G N (aO [b,c]) H=Au G N b c H:=by
 refine aT (A:=aB Tryz.f186 G N) ((ar j ((ar j ((ar j (aiS G N) ((ar j ((aX j ((a_ (k:=λm C H=>sP G N m (C 0) (C 1) (C 5) (C 6) (C 7) H) j (λC H=>j) (λm=>aiP G N (sP G N m)))))) (aj _))))) (aj _))) (aj _))) ?_;delta Au;generalize sP G N N=a;revert a;refine id ?_;intro a;kernel_rfl
def sR(G:ai)(N:Nat)(b:aa)(H:af):O:=aF H (aC P H 43 b (.agg [I J 0,I J 0,I J 0])) λa=>ad (ah P a 43 b) λr=>D (.tuple [r,Z U],a)
def aiX(G:ai)(N:Nat):∀C H,aD P G N (ae (ae (ae (ae (aG Tryz.f187))))) (ax Tryz.f187) [] (ax Tryz.f187) C H=sR G N (C 4) H:=by
 refine aI (aj _) λC H=> ?_
 delta sR;kernel_rfl
def Gh(G:ai)(N:Nat)(f:aa->aa->aa->aa->af->O)(c d:aa)(a b:aa)(H:af):O:=a1 P .len [77] [c] H λg=>ad (al P .lss 3 U b g) λh=>ay (D h) (ad (aH P 77 c b) λj=>ad (ah P H 9 j) λk=>ad (ak P 114 d 0) λl=>ad (ah P H 9 l) λm=>ad (al P .eql 9 U k m) λn=>ay (D n) (ad (ak P 114 d 1) λo=>ad (ah P H 3 o) λp=>ad (bo P 43 [(0,(I J 3)),(1,b),(2,p)]) λq=>aF H (aC P H 43 a q) λe=>ad (ah P e 43 a) λr=>D (.tuple [r,Z V],e)) (ad (al P .add 3 V b (I J 1)) λi=>f c d a i H)) (sR G N a H)
def sS(G:ai)(N:Nat):Nat->aa->aa->aa->aa->af->O
 |0,_,_,_,_,_=>Y
 |n+1,a,b,c,d,H=>Gh G N (sS G N n) a b c d H
def aiV(G:ai)(N:Nat)(b:aa->aa->aa->aa->af->O):∀C H,aD P G N (aq (aq (ae (aq (ae (ae (ae (aG Tryz.f187)))))))) (λC H=>b (C 0) (C 3) (C 4) (C 6) H) [(1,(λC H=>sR G N (C 4) H))] (ax Tryz.f187) C H=Gh G N b (C 0) (C 3) (C 4) (C 6) H:=by
 refine aI (aj _) λC H=> ?_
 delta Gh;generalize sR G N=a;revert a;refine id ?_;intro a;kernel_rfl
def Av(G:ai)(N:Nat)(k l:aa)(H:af):O:=aK H (bl (H).next l) λd i=>ba i [I J 0,I J 0,I J 0] λc f=>ad (ak P 114 d 1) λA=>ad (ah P f 3 A) λB=>ad (al P .lss 3 V B (I J 0)) λe=>au e U f (aE (ak P 114 d 1)) λm g=>au e U g (qr (ah P g 3 m)) λn j=>au e U j (aE (al P .gtr 3 V n (I J 3))) λo a=>ad (aU e (D (Z V)) (D o)) λp=>ay (D p) (aF a (aC P a 43 c (.agg [I J 0,I J 0,I J 0])) λb=>ad (ah P b 43 c) λr=>D (.tuple [r,Z U],b)) (ad (ak P 114 d 0) λq=>ad (ah P a 9 q) λh=>ad (al P .eql 9 V h (X [105,110,116])) λs=>ay (D s) (ad (ak P 114 d 1) λt=>ad (ah P a 3 t) λu=>ad (bo P 43 [(0,(I J 1)),(2,u)]) λv=>aF a (aC P a 43 c v) λb=>ad (ah P b 43 c) λr=>D (.tuple [r,Z V],b)) (ad (al P .eql 9 V h (X [98,111,111,108])) λw=>ay (D w) (ad (ak P 114 d 1) λx=>ad (ah P a 3 x) λy=>ad (bo P 43 [(0,(I J 2)),(2,y)]) λz=>aF a (aC P a 43 c z) λb=>ad (ah P b 43 c) λr=>D (.tuple [r,Z V],b)) (sS G N N k d c (I J 0) a)))
def aiW(G:ai)(N:Nat)(b:aa)(c:aa)(H:af):aB Tryz.f187 G N (aO [b,c]) H=Av G N b c H:=by
 refine aT (A:=aB Tryz.f187 G N) ((ar j ((ar j ((ar j ((ar j (aiX G N) ((ar j ((aX j ((a_ (k:=λm C H=>sS G N m (C 0) (C 3) (C 4) (C 6) H) j (λC H=>j) (λm=>aiV G N (sS G N m)))))) (aj _))))) (aj _))) (aj _))) (aj _))) ?_;delta Av;generalize sS G N N=a;revert a;refine id ?_;intro a;kernel_rfl
def sZ(G:ai)(N:Nat)(b d:aa)(H:af):O:=ad (ah P H 207 d) λc=>aF H (aC P H 207 b c) λa=>ad (ah P a 207 b) λr=>D (r,a)
def ai_(G:ai)(N:Nat):∀C H,aD P G N (ae (ae (ae (ae (ae (ae (ae (ae (ae (ae (ae (ae (ae (ae (ae (ae (aG Tryz.f188))))))))))))))))) (ax Tryz.f188) [] (ax Tryz.f188) C H=sZ G N (C 4) (C 5) H:=by
 refine aI (aj _) λC H=> ?_
 delta sZ;kernel_rfl
def sY(G:ai)(N:Nat)(f c:aa)(d a:aa)(H:af):O:=ad (ak P 207 c 0) λg=>ad (ah P H 3 g) λh=>ad (al P .eql 3 V h (I J 5)) λi=>ay (D i) (ad (ak P 207 c 5) λj=>ad (ah P H 119 j) λk=>aw H (G 123 [f,k] H) λl b=>ad (ak P 207 a 5) λm=>aF b (aC P b 119 m l) λe=>sZ G N d a e) (sZ G N d a H)
def ai9(G:ai)(N:Nat):∀C H,aD P G N (ae (ae (ae (ae (ae (ae (ae (ae (ae (ae (ae (ae (ae (ae (ae (aG Tryz.f188)))))))))))))))) (ax Tryz.f188) [] (ax Tryz.f188) C H=sY G N (C 0) (C 3) (C 4) (C 5) H:=by
 refine aI ((ar j (ai_ G N) (aj _))) λC H=> ?_
 delta sY;generalize sZ G N=a;revert a;refine id ?_;intro a;kernel_rfl
def sX(G:ai)(N:Nat)(d a:aa)(h e:aa)(H:af):O:=ad (ak P 207 a 0) λk=>ad (ah P H 3 k) λl=>ad (al P .eql 3 V l (I J 5)) λc=>au c U H (aE (ak P 207 a 0)) λm f=>au c U f (qr (ah P f 3 m)) λn i=>au c U i (aE (al P .eql 3 V n (I J 6))) λo b=>ad (aU c (D (Z V)) (D o)) λp=>ay (D p) (ad (ak P 207 a 4) λq=>ad (ah P b 119 q) λr=>aw b (G 123 [d,r] b) λs g=>ad (ak P 207 e 4) λt=>aF g (aC P g 119 t s) λj=>sY G N d a h e j) (sY G N d a h e b)
def ai8(G:ai)(N:Nat):∀C H,aD P G N (ae (ae (ae (ae (ae (ae (ae (ae (ae (ae (ae (ae (ae (ae (aG Tryz.f188))))))))))))))) (ax Tryz.f188) [] (ax Tryz.f188) C H=sX G N (C 0) (C 3) (C 4) (C 5) H:=by
 refine aI ((ar j (ai9 G N) (aj _))) λC H=> ?_
 delta sX;generalize sY G N=a;revert a;refine id ?_;intro a;kernel_rfl
def sW(G:ai)(N:Nat)(f b:aa)(g d c:aa)(H:af):O:=au c U H (aE (ak P 207 b 0)) λj e=>au c U e (qr (ah P e 3 j)) λk h=>au c U h (aE (al P .eql 3 V k (I J 3))) λl a=>ad (aU c (D (Z V)) (D l)) λm=>ay (D m) (ad (ak P 207 b 1) λn=>ad (ah P a 9 n) λo=>ad (ak P 207 d 1) λp=>aF a (aC P a 9 p o) λi=>sX G N f b g d i) (sX G N f b g d a)
def ai7(G:ai)(N:Nat):∀C H,aD P G N (ae (ae (ae (ae (ae (ae (ae (ae (ae (ae (ae (ae (ae (aG Tryz.f188)))))))))))))) (ax Tryz.f188) [] (ax Tryz.f188) C H=sW G N (C 0) (C 3) (C 4) (C 5) (C 7) H:=by
 refine aI ((ar j (ai8 G N) (aj _))) λC H=> ?_
 delta sW;generalize sX G N=a;revert a;refine id ?_;intro a;kernel_rfl
def m4(G:ai)(N:Nat)(c d:aa)(e h:aa)(z i k:aa)(H:af):O:=ad (bu .not k) λl=>ay (D l) (ad (ak P 207 d 6) λm=>ad (ah P H 3 m) λn=>aw H (G 225 [c,n] H) λA a=>ad (ah P a 207 h) λo=>aF a (aC P a 207 e o) λb=>ad (ah P b 207 e) λr=>D (r,b)) (ay (D i) (ad (aL c) λp=>ad (ak P 199 p 3) λf=>ad (ah P H 123 f) λg=>ad (ak P 207 d 1) λq=>ad (ah P H 9 q) λs=>ad (ah P H 43 z) λt=>ad (bo P 135 [(0,s),(1,t)]) λu=>aK H (bd P (H).next 123 1 [(0,u)]) λv a=>aw a (bx P a [123,123] g v) λw b=>ad (aL c) λx=>ad (ak P 199 x 3) λy=>aF b (aC P b 123 y w) λj=>bif ((aJ (ah P H 123 f) g&&(aJ (ah P a 123 f) g&&V))&&V)then(sW G N c d e h i j)else Y) (sW G N c d e h i H))
def ai6(G:ai)(N:Nat):∀C H,aD P G N (ae (ae (ae (ae (ae (ae (ae (ae (ae (ae (ae (aG Tryz.f188)))))))))))) (ax Tryz.f188) [] (ax Tryz.f188) C H=m4 G N (C 0) (C 3) (C 4) (C 5) (C 6) (C 7) (C 11) H:=by
 refine aI ((ar j ((ar j (ai7 G N) (aj _))) (aj _))) λC H=> ?_
 delta m4;generalize sW G N=a;revert a;refine id ?_;intro a;kernel_rfl
def s0(G:ai)(N:Nat)(a j:aa)(k b:aa)(l m d:aa)(H:af):O:=ad (aL a) λe=>ad (ak P 199 e 3) λf=>ad (ah P H 123 f) λg=>a1 P .len [123] [g] H λh=>ad (ak P 207 b 7) λi=>aF H (aC P H 3 i h) λc=>m4 G N a j k b l m d c
def aja(G:ai)(N:Nat):∀C H,aD P G N (ae (aq (ae (aq (ae (ae (ae (ae (ae (ae (ae (ae (ae (ae (aG Tryz.f188))))))))))))))) (λC H=>m4 G N (C 0) (C 3) (C 4) (C 5) (C 6) (C 7) (C 11) H) [] (ax Tryz.f188) C H=s0 G N (C 0) (C 3) (C 4) (C 5) (C 6) (C 7) (C 11) H:=by
 refine aI (aj _) λC H=> ?_
 delta s0;generalize m4 G N=a;revert a;refine id ?_;intro a;kernel_rfl
def Gj(G:ai)(N:Nat)(l:aa->aa->aa->aa->aa->aa->aa->aa->af->O)(b d:aa)(h i:aa)(j k:aa)(a c:aa)(H:af):O:=ad (aL b) λu=>ad (ak P 199 u 3) λv=>ad (ah P H 123 v) λw=>a1 P .len [123] [w] H λx=>ad (al P .lss 3 U c x) λy=>ay (D y) (au a V H (aV b) λA m=>au a V m (aE (aL A)) λB p=>au a V p (aE (ak P 199 B 3)) λC e=>au a V e (qr (ah P e 123 C)) λE q=>au a V q (aV c) λF r=>au a V r (aE (aH P 123 E F)) λK s=>au a V s (aE (ak P 135 K 0)) λL f=>au a V f (qr (ah P f 9 L)) λM t=>au a V t (aE (ak P 207 d 1)) λQ g=>au a V g (qr (ah P g 9 Q)) λR n=>au a V n (aE (al P .neq 9 U M R)) λS o=>ad (aU a (D S) (D (Z U))) λT=>ad (al P .add 3 V c (I J 1)) λz=>l b d h i j k T z o) (s0 G N b d h i j k a H)
def s4(G:ai)(N:Nat):Nat->aa->aa->aa->aa->aa->aa->aa->aa->af->O
 |0,_,_,_,_,_,_,_,_,_=>Y
 |n+1,a,d,e,f,g,h,b,c,H=>Gj G N (s4 G N n) a d e f g h b c H
def aiZ(G:ai)(N:Nat)(b:aa->aa->aa->aa->aa->aa->aa->aa->af->O):∀C H,aD P G N (aq (aq (ae (aq (aq (ae (aq (ae (ae (ae (ae (ae (ae (ae (ae (ae (ae (aG Tryz.f188)))))))))))))))))) (λC H=>b (C 0) (C 3) (C 4) (C 5) (C 6) (C 7) (C 11) (C 15) H) [(3,(λC H=>s0 G N (C 0) (C 3) (C 4) (C 5) (C 6) (C 7) (C 11) H))] (ax Tryz.f188) C H=Gj G N b (C 0) (C 3) (C 4) (C 5) (C 6) (C 7) (C 11) (C 15) H:=by
 refine aI (aj _) λC H=> ?_
 delta Gj;generalize s0 G N=a;revert a;refine id ?_;intro a;kernel_rfl
def iM(G:ai)(N:Nat)(b d:aa)(e f:aa)(g a c:aa)(H:af):O:=ay (D a) (s4 G N N b d e f g a c (I J 0) H) (m4 G N b d e f g a c H)
def ai5(G:ai)(N:Nat):∀C H,aD P G N (ae (ae (ae (ae (ae (ae (ae (ae (ae (ae (aG Tryz.f188))))))))))) (ax Tryz.f188) [] (ax Tryz.f188) C H=iM G N (C 0) (C 3) (C 4) (C 5) (C 6) (C 7) (C 11) H:=by
 refine aI ((ar j (ai6 G N) ((ar j ((bz j ((ar j (aja G N) ((ar j ((aX j ((a_ (k:=λm C H=>s4 G N m (C 0) (C 3) (C 4) (C 5) (C 6) (C 7) (C 11) (C 15) H) j (λC H=>j) (λm=>aiZ G N (s4 G N m)))))) (aj _))))) (aj _))) (aj _))))) λC H=> ?_
 delta iM;generalize m4 G N=a;generalize s4 G N N=b;revert a b;refine id ?_;intro a b;kernel_rfl
def sU(G:ai)(N:Nat)(d e:aa)(f c:aa)(g h:aa)(B s C:aa)(H:af):O:=ay (D C) (aw H (G 229 [] H) λF a=>ad (ak P 207 c 3) λi=>ad (ah P a 205 i) λj=>ad (aH P 205 j (I J 0)) λE=>ad (ak P 267 E 6) λk=>ad (ah P a 43 k) λl=>ad (al P .eql 43 U l F) λK=>bif ((aJ (ah P H 205 i) j&&aJ (ah P a 205 i) j)&&((aJ (ah P H 43 k) l&&aJ (ah P a 43 k) l)&&V))then(iM G N d e f c g h K a)else Y) (ad (al P .eql 3 V s (I J 7)) λL=>ay (D L) (ad (aL d) λM=>ad (ak P 199 M 2) λQ=>ad (ak P 139 Q 2) λR=>ad (ah P H 4 R) λS=>ad (bu .not S) λb=>au b U H (aE (ak P 207 c 3)) λT a=>au b U a (qr (ah P a 205 T)) λW v=>au b U v (aE (aH P 205 W (I J 0))) λab w=>au b U w (aE (ak P 267 ab 6)) λae q=>au b U q (qr (ah P q 43 ae)) λaj x=>au b U x (aV d) λam y=>au b U y (aE (aL am)) λan z=>au b U z (aE (ak P 199 an 2)) λap A=>au b U A (aE (ak P 139 ap 3)) λaq r=>au b U r (qr (ah P r 43 aq)) λar t=>au b U t (aE (al P .eql 43 U aj ar)) λav u=>ad (aU b (D (Z V)) (D av)) λax=>iM G N d e f c g h ax u) (ad (al P .eql 3 V s (I J 8)) λaz=>ay (D az) (aw H (G 230 [] H) λaB a=>ad (ak P 207 c 3) λm=>ad (ah P a 205 m) λn=>ad (aH P 205 n (I J 0)) λaA=>ad (ak P 267 aA 6) λo=>ad (ah P a 43 o) λp=>ad (al P .eql 43 U p aB) λaC=>bif ((aJ (ah P H 205 m) n&&aJ (ah P a 205 m) n)&&((aJ (ah P H 43 o) p&&aJ (ah P a 43 o) p)&&V))then(iM G N d e f c g h aC a)else Y) (iM G N d e f c g h B H)))
def ai2(G:ai)(N:Nat):∀C H,aD P G N (ae (ae (ae (ae (ae (ae (ae (aq (ae (aq (ae (ae (ae (ae (ae (ae (ae (ae (ae (aG Tryz.f188)))))))))))))))))))) (λC H=>iM G N (C 0) (C 3) (C 4) (C 5) (C 6) (C 7) (C 11) H) [(2,(λC H=>iM G N (C 0) (C 3) (C 4) (C 5) (C 6) (C 7) (C 11) H))] (ax Tryz.f188) C H=sU G N (C 0) (C 3) (C 4) (C 5) (C 6) (C 7) (C 11) (C 103) (C 148) H:=by
 refine aI (aj _) λC H=> ?_
 delta sU;generalize iM G N=a;revert a;refine id ?_;intro a;kernel_rfl
def o6(G:ai)(N:Nat)(d f:aa)(g b:aa)(h i:aa)(H:af):O:=aw H (G 124 [d] H) λaQ a=>ad (bu .not aQ) λy=>ay (D y) (ad (ah P a 207 b) λz=>aF a (aC P a 207 g z) λj=>ad (ah P j 207 g) λr=>D (r,j)) (ad (ak P 207 f 0) λA=>ad (ah P a 3 A) λe=>ad (al P .eql 3 V e (I J 2)) λB=>ay (D B) (ad (ak P 207 b 3) λC=>ad (ah P a 205 C) λE=>ad (aH P 205 E (I J 0)) λF=>ad (ak P 267 F 6) λK=>ad (ah P a 43 K) λL=>ad (ah P a 43 h) λM=>ad (al P .eql 43 U L M) λQ=>iM G N d f g b h i Q a) (ad (al P .eql 3 V e (I J 3)) λR=>ay (D R) (ad (ak P 207 f 1) λS=>ad (ah P a 9 S) λT=>aw a (G 228 [d,T] a) λk j=>ad (bJ k 0) λW=>ad (bJ k 1) λab=>ad (bJ k 2) λc=>ba j [I J 0,I J 0,I J 0] λq m=>aF m (aC P m 43 q ab) λn=>ad (ak P 207 b 7) λae=>aF n (aC P n 3 ae W) λo=>au c V o (qr (ah P o 43 q)) λaj v=>au c V v (aE (ak P 207 b 3)) λam p=>au c V p (qr (ah P p 205 am)) λan w=>au c V w (aE (aH P 205 an (I J 0))) λap x=>au c V x (aE (ak P 267 ap 6)) λaq l=>au c V l (qr (ah P l 43 aq)) λar t=>au c V t (aE (al P .eql 43 U aj ar)) λav u=>ad (aU c (D av) (D (Z U))) λax=>iM G N d f g b h i ax u) (ad (al P .eql 3 V e (I J 4)) λaz=>ay (D az) (ad (ak P 207 b 3) λaA=>ad (ah P a 205 aA) λaB=>ad (aH P 205 aB (I J 0)) λaD=>ad (ak P 267 aD 6) λaG=>ad (ah P a 43 aG) λaI=>ad (ak P 207 b 3) λaJ=>ad (ah P a 205 aJ) λaK=>ad (aH P 205 aK (I J 1)) λaL=>ad (ak P 267 aL 6) λaM=>ad (ah P a 43 aM) λaN=>ad (al P .eql 43 U aI aN) λaO=>iM G N d f g b h i aO a) (ad (al P .eql 3 V e (I J 5)) λs=>ay (D s) (sU G N d f g b h i (Z V) e s a) (ad (al P .eql 3 V e (I J 6)) λaP=>sU G N d f g b h i (Z V) e aP a)))))
def ai4(G:ai)(N:Nat):∀C H,aD P G N (ae (ae (ae (ae (ae (ae (ae (aG Tryz.f188)))))))) (ax Tryz.f188) [] (ax Tryz.f188) C H=o6 G N (C 0) (C 3) (C 4) (C 5) (C 6) (C 7) H:=by
 refine aI ((ar j ((ar j ((ar j (ai5 G N) ((ar j ((aX j ((ar j ((bz j (aj _) ((ar j ((bz j (aj _) ((ar j ((bz j (aj _) ((ar j (ai2 G N) (aj _))))) (aj _))))) (aj _))))) (aj _))))) (aj _))))) (aj _))) (aj _))) λC H=> ?_
 delta o6;generalize sU G N=a;generalize iM G N=b;revert a b;refine id ?_;intro a b;kernel_rfl
def sV(G:ai)(N:Nat)(a:aa->aa->aa->aa->aa->aa->aa->af->O)(b d:aa)(e f:aa)(g h c:aa)(H:af):O:=ad (al P .add 3 V c (I J 1)) λi=>a b d e f g h i H
def ai3(G:ai)(N:Nat)(a:aa->aa->aa->aa->aa->aa->aa->af->O):∀C H,aD P G N (ae (ae (aq (aq (ae (aq (ae (ae (ae (ae (ae (ae (aG Tryz.f188))))))))))))) (λC H=>a (C 0) (C 3) (C 4) (C 5) (C 6) (C 7) (C 10) H) [(0,(λC H=>o6 G N (C 0) (C 3) (C 4) (C 5) (C 6) (C 7) H))] (ax Tryz.f188) C H=sV G N a (C 0) (C 3) (C 4) (C 5) (C 6) (C 7) (C 10) H:=by
 refine aI (aj _) λC H=> ?_
 delta sV;kernel_rfl
def Gi(G:ai)(N:Nat)(t:aa->aa->aa->aa->aa->aa->aa->af->O)(f d:aa)(o e:aa)(p s h:aa)(H:af):O:=ad (ak P 207 d 3) λu=>ad (ah P H 205 u) λv=>a1 P .len [205] [v] H λw=>ad (al P .lss 3 U h w) λr=>au r V H (aV f) λx m=>au r V m (λq=>bq m (G 124 [x] m) q) λy a=>ad (aU r (D y) (D (Z U))) λz=>ay (D z) (ad (ak P 207 d 0) λA=>ad (ah P a 3 A) λB=>ad (al P .eql 3 V B (I J 9)) λC=>ay (D C) (ad (ak P 207 d 3) λE=>ad (ah P a 205 E) λF=>ad (aH P 205 F h) λK=>ad (ah P a 267 K) λL=>aw a (G 226 [f,L] a) λM b=>ad (ak P 207 e 3) λi=>ad (ah P b 205 i) λj=>aK b (bd P (b).next 205 1 [(0,M)]) λQ c=>aw c (bx P c [205,205] j Q) λR g=>ad (ak P 207 e 3) λS=>aF g (aC P g 205 S R) λn=>bif ((aJ (ah P a 205 i) j&&(aJ (ah P b 205 i) j&&(aJ (ah P c 205 i) j&&V)))&&V)then(sV G N t f d o e p s h n)else Y) (ad (ak P 207 d 3) λT=>ad (ah P a 205 T) λW=>ad (aH P 205 W h) λab=>ad (ah P a 267 ab) λae=>aw a (G 227 [f,ae] a) λaj b=>ad (ak P 207 e 3) λk=>ad (ah P b 205 k) λl=>aK b (bd P (b).next 205 1 [(0,aj)]) λam c=>aw c (bx P c [205,205] l am) λan g=>ad (ak P 207 e 3) λap=>aF g (aC P g 205 ap an) λn=>bif ((aJ (ah P a 205 k) l&&(aJ (ah P b 205 k) l&&(aJ (ah P c 205 k) l&&V)))&&V)then(sV G N t f d o e p s h n)else Y)) (o6 G N f d o e p s a)
def s3(G:ai)(N:Nat):Nat->aa->aa->aa->aa->aa->aa->aa->af->O
 |0,_,_,_,_,_,_,_,_=>Y
 |n+1,a,c,d,e,f,g,b,H=>Gi G N (s3 G N n) a c d e f g b H
def aiY(G:ai)(N:Nat)(a:aa->aa->aa->aa->aa->aa->aa->af->O):∀C H,aD P G N (aq (aq (ae (aq (ae (ae (ae (ae (ae (ae (aG Tryz.f188))))))))))) (λC H=>a (C 0) (C 3) (C 4) (C 5) (C 6) (C 7) (C 10) H) [(0,(λC H=>o6 G N (C 0) (C 3) (C 4) (C 5) (C 6) (C 7) H))] (ax Tryz.f188) C H=Gi G N a (C 0) (C 3) (C 4) (C 5) (C 6) (C 7) (C 10) H:=by
 refine aI ((ar j ((ar j (ai3 G N a) (aj _))) (aj _))) λC H=> ?_
 delta Gi;generalize o6 G N=b;generalize sV G N a=c;revert b c;refine id ?_;intro b c;kernel_rfl
def sT(G:ai)(N:Nat)(a b:aa)(c d:aa)(e f:aa)(H:af):O:=s3 G N N a b c d e f (I J 0) H
def ai1(G:ai)(N:Nat):∀C H,aD P G N (ae (ae (ae (ae (ae (ae (aG Tryz.f188))))))) (ax Tryz.f188) [] (ax Tryz.f188) C H=sT G N (C 0) (C 3) (C 4) (C 5) (C 6) (C 7) H:=by
 refine aI ((ar j (ai4 G N) ((ar j ((aX j ((a_ (k:=λm C H=>s3 G N m (C 0) (C 3) (C 4) (C 5) (C 6) (C 7) (C 10) H) j (λC H=>j) (λm=>aiY G N (s3 G N m)))))) (aj _))))) λC H=> ?_
 delta sT;generalize s3 G N N=a;revert a;refine id ?_;intro a;kernel_rfl
def Aw(G:ai)(N:Nat)(f C:aa)(H:af):O:=aK H (bl (H).next C) λa z=>ba z [I J 0,X [],X [],I J 0,aa.ao,aa.ao,aa.ao,I J 0,I J 0] λg m=>ad (ak P 207 a 0) λE=>ad (ah P m 3 E) λF=>ad (ak P 207 a 6) λK=>ad (ah P m 3 K) λL=>ad (bo P 207 [(0,F),(6,L)]) λM=>ba m [I J 0,X [],X [],I J 0,aa.ao,aa.ao,aa.ao,I J 0,I J 0] λh s=>aF s (aC P s 207 h M) λn=>ad (ah P n 207 a) λQ=>aw n (G 224 [f,Q] n) λR k=>ad (bu .not R) λS=>ay (D S) (ad (ak P 207 a 6) λT=>ad (ah P k 3 T) λW=>aw k (G 225 [f,W] k) λaM e=>ad (ah P e 207 h) λab=>aF e (aC P e 207 g ab) λi=>ad (ah P i 207 g) λr=>D (r,i)) (ba k [I J 0,I J 0,I J 0] λp e=>ad (ak P 207 a 0) λae=>ad (ah P e 3 ae) λaj=>ad (al P .eql 3 V aj (I J 1)) λl=>au l U e (aE (ak P 207 a 0)) λam i=>au l U i (qr (ah P i 3 am)) λan B=>au l U B (aE (al P .eql 3 V an (I J 2))) λap c=>ad (aU l (D (Z V)) (D ap)) λo=>ay (D o) (ad (aL f) λaq=>ad (ak P 199 aq 1) λt=>ad (ah P c 77 t) λu=>ad (ak P 207 a 2) λv=>ad (ah P c 114 v) λw=>aw c (G 187 [u,w] c) λx A=>ad (bJ x 0) λar=>ba A [I J 0,I J 0,I J 0] λy q=>aF q (aC P q 43 y ar) λd=>ad (bJ x 1) λav=>bif ((aJ (ah P c 77 t) u&&V)&&((aJ (ah P c 114 v) w&&V)&&V))then(ad (bu .not av) λax=>ay (D ax) (ad (ak P 207 a 6) λaz=>ad (ah P d 3 az) λaA=>aw d (G 225 [f,aA] d) λaN b=>ad (ah P b 207 h) λaB=>aF b (aC P b 207 g aB) λj=>ad (ah P j 207 g) λr=>D (r,j)) (ad (ah P d 43 y) λaD=>aF d (aC P d 43 p aD) λb=>ad (ak P 207 a 2) λaG=>ad (ah P b 114 aG) λaH=>ad (ak P 207 h 2) λaI=>aF b (aC P b 114 aI aH) λj=>sT G N f a g h p o j))else Y) (sT G N f a g h p o c))
def ai0(G:ai)(N:Nat)(b:aa)(c:aa)(H:af):aB Tryz.f188 G N (aO [b,c]) H=Aw G N b c H:=by
 refine aT (A:=aB Tryz.f188 G N) ((ar j ((ar j ((ar j ((ar j ((ar j ((ar j (ai1 G N) (aj _))) (aj _))) (aj _))) (aj _))) (aj _))) (aj _))) ?_;delta Aw;generalize sT G N=a;revert a;refine id ?_;intro a;kernel_rfl
def s5(G:ai)(N:Nat)(f e:aa)(H:af):O:=ad (ak P 267 e 0) λz=>ad (ah P H 3 z) λA=>ad (al P .eql 3 V A (I J 4)) λd=>au d V H (aE (ak P 267 e 7)) λB g=>au d V g (qr (ah P g 3 B)) λC s=>au d V s (aE (al P .geq 3 V C (I J 0))) λE u=>ad (aU d (D E) (D (Z U))) λa=>au a V u (aV f) λF v=>au a V v (aE (aL F)) λK w=>au a V w (aE (ak P 203 K 0)) λL k=>au a V k (qr (ah P k 95 L)) λM x=>au a V x (aE (ak P 267 e 7)) λQ l=>au a V l (qr (ah P l 3 Q)) λR y=>au a V y (aE (aH P 95 M R)) λS h=>au a V h (qr (ah P h 4 S)) λT m=>au a V m (aE (bu .not T)) λW n=>ad (aU a (D W) (D (Z U))) λb=>au b V n (aV f) λab o=>au b V o (aE (aL ab)) λae p=>au b V p (aE (ak P 203 ae 1)) λaj q=>au b V q (aE (ak P 58 aj 0)) λam i=>au b V i (qr (ah P i 56 am)) λan r=>au b V r (aE (al P .eql 56 V an (I J 0))) λap c=>ad (aU b (D ap) (D (Z U))) λaq=>ay (D aq) (ad (ak P 267 e 5) λar=>ad (ah P c 3 ar) λav=>aw c (G 185 [av] c) λax j=>ad (aL f) λaz=>ad (ak P 203 az 1) λaA=>aF j (aC P j 58 aA ax) λt=>D (.tuple [],t)) (D (.tuple [],c))
def ajd(G:ai)(N:Nat):∀C H,aD P G N (ae (ae (aG Tryz.f189))) (ax Tryz.f189) [] (ax Tryz.f189) C H=s5 G N (C 0) (C 3) H:=by
 refine aI (aj _) λC H=> ?_
 delta s5;kernel_rfl
def Gk(G:ai)(N:Nat)(d:aa->aa->aa->af->O)(b a c:aa)(H:af):O:=ad (ak P 267 a 4) λk=>ad (ah P H 205 k) λl=>a1 P .len [205] [l] H λm=>ad (al P .lss 3 U c m) λn=>ay (D n) (ad (ak P 267 a 4) λg=>ad (ah P H 205 g) λh=>ad (aH P 205 h c) λi=>ad (ah P H 267 i) λj=>aw H (G 189 [b,j] H) λo e=>ad (al P .add 3 V c (I J 1)) λf=>d b a f e) (s5 G N b a H)
def s6(G:ai)(N:Nat):Nat->aa->aa->aa->af->O
 |0,_,_,_,_=>Y
 |n+1,a,b,c,H=>Gk G N (s6 G N n) a b c H
def ajb(G:ai)(N:Nat)(b:aa->aa->aa->af->O):∀C H,aD P G N (aq (aq (ae (aq (ae (aG Tryz.f189)))))) (λC H=>b (C 0) (C 3) (C 4) H) [(0,(λC H=>s5 G N (C 0) (C 3) H))] (ax Tryz.f189) C H=Gk G N b (C 0) (C 3) (C 4) H:=by
 refine aI (aj _) λC H=> ?_
 delta Gk;generalize s5 G N=a;revert a;refine id ?_;intro a;kernel_rfl
def Ax(G:ai)(N:Nat)(b c:aa)(H:af):O:=aK H (bl (H).next c) λd a=>s6 G N N b d (I J 0) a
def ajc(G:ai)(N:Nat)(b:aa)(c:aa)(H:af):aB Tryz.f189 G N (aO [b,c]) H=Ax G N b c H:=by
 refine aT (A:=aB Tryz.f189 G N) ((ar j ((ar j (ajd G N) ((ar j ((aX j ((a_ (k:=λm C H=>s6 G N m (C 0) (C 3) (C 4) H) j (λC H=>j) (λm=>ajb G N (s6 G N m)))))) (aj _))))) (aj _))) ?_;delta Ax;generalize s6 G N N=a;revert a;refine id ?_;intro a;kernel_rfl
def Gl(G:ai)(N:Nat)(c:aa->aa->af->O)(a b:aa)(H:af):O:=ad (aL a) λj=>ad (ak P 203 j 0) λk=>ad (ah P H 95 k) λl=>a1 P .len [95] [l] H λm=>ad (al P .lss 3 U b m) λn=>ay (D n) (ad (aL a) λf=>ad (ak P 203 f 0) λg=>ad (ah P H 95 g) λh=>ad (aH P 95 h b) λi=>aF H (aC P H 4 i (Z V)) λd=>ad (al P .add 3 V b (I J 1)) λe=>c a e d) (D (.tuple [],H))
def s7(G:ai)(N:Nat):Nat->aa->aa->af->O
 |0,_,_,_=>Y
 |n+1,a,b,H=>Gl G N (s7 G N n) a b H
def aje(G:ai)(N:Nat)(a:aa->aa->af->O):∀C H,aD P G N (aq (aq (ae (aG Tryz.f190)))) (λC H=>a (C 0) (C 2) H) [(0,(ax Tryz.f190))] (ax Tryz.f190) C H=Gl G N a (C 0) (C 2) H:=by
 refine aI (aj _) λC H=> ?_
 delta Gl;kernel_rfl
def Ay(G:ai)(N:Nat)(a:aa)(H:af):O:=s7 G N N a (I J 0) H
def ajf(G:ai)(N:Nat)(b:aa)(H:af):aB Tryz.f190 G N (aO [b]) H=Ay G N b H:=by
 refine aT (A:=aB Tryz.f190 G N) ((ar j ((aX j ((a_ (k:=λm C H=>s7 G N m (C 0) (C 2) H) j (λC H=>j) (λm=>aje G N (s7 G N m)))))) (aj _))) ?_;delta Ay;generalize s7 G N N=a;revert a;refine id ?_;intro a;kernel_rfl
def jS(G:ai)(c E:aa)(H:af):O:=ad (ak P 207 c 3) λj=>ad (ah P H 205 j) λk=>a1 P .len [205] [k] H λl=>ad (al P .neq 3 U l E) λm=>ay (D m) (D ((Z U),H)) (ad (ak P 207 c 0) λn=>ad (ah P H 3 n) λo=>ad (al P .eql 3 V o (I J 4)) λp=>ay (D p) (ad (ak P 207 c 3) λq=>ad (ah P H 205 q) λr=>ad (aH P 205 r (I J 0)) λs=>ad (ak P 267 s 0) λt=>ad (ah P H 3 t) λu=>ad (al P .eql 3 V u (I J 5)) λa=>au a U H (aE (ak P 207 c 3)) λv d=>au a U d (qr (ah P d 205 v)) λw f=>au a U f (aE (aH P 205 w (I J 0))) λx g=>au a U g (aE (ak P 267 x 0)) λy e=>au a U e (qr (ah P e 3 y)) λz h=>au a U h (aE (al P .eql 3 V z (I J 6))) λA i=>ad (aU a (D (Z V)) (D A)) λB=>D (B,i)) (ad (ak P 207 c 0) λC=>ad (ah P H 3 C) λF=>ad (al P .neq 3 V F (I J 9)) λb=>au b U H (aE (ak P 207 c 3)) λK d=>au b U d (qr (ah P d 205 K)) λL f=>au b U f (aE (aH P 205 L (I J 0))) λM g=>au b U g (aE (ak P 267 M 0)) λN e=>au b U e (qr (ah P e 3 N)) λQ h=>au b U h (aE (al P .eql 3 V Q (I J 7))) λR i=>ad (aU b (D (Z V)) (D R)) λS=>D (S,i)))
def akl(G:ai)(N:Nat):∀C H,aD P G N (ae (ae (ae (aG Tryz.f224)))) (ax Tryz.f224) [] (ax Tryz.f224) C H=jS G (C 3) (C 5) H:=by
 refine aI (aj _) λC H=> ?_
 delta jS;kernel_rfl
def kP(G:ai)(b c a:aa)(H:af):O:=ay (D a) (jS G b c H) (D ((Z U),H))
def akm(G:ai)(N:Nat):∀C H,aD P G N (ae (ae (ae (ae (ae (ae (ae (aq (ae (aq (ae (ae (aG Tryz.f224))))))))))))) (λC H=>jS G (C 3) (C 5) H) [(0,(λC H=>jS G (C 3) (C 5) H))] (ax Tryz.f224) C H=kP G (C 3) (C 5) (C 20) H:=by
 refine aI (aj _) λC H=> ?_
 delta kP;generalize jS G=a;revert a;refine id ?_;intro a;kernel_rfl
def A4(G:ai)(i j:aa)(H:af):O:=aK H (bl (H).next j) λb a=>ad (ak P 207 b 0) λs=>ad (ah P a 3 s) λc=>ad (al P .eql 3 V c (I J 1)) λt=>ay (D t) (jS G b (I J 0) a) (ad (al P .eql 3 V c (I J 4)) λk=>ay (D k) (jS G b (I J 2) a) (ad (al P .eql 3 V c (I J 7)) λl=>ay (D l) (ad (aL i) λm=>ad (ak P 199 m 2) λn=>ad (ak P 139 n 2) λo=>ad (ah P a 4 o) λp=>ad (bu .not p) λq=>ay (D q) (jS G b (I J 0) a) (jS G b (I J 1) a)) (ad (al P .eql 3 V c (I J 2)) λd=>ay (D d) (kP G b (I J 1) d a) (ad (al P .eql 3 V c (I J 3)) λe=>ay (D e) (kP G b (I J 1) e a) (ad (al P .eql 3 V c (I J 5)) λf=>ay (D f) (kP G b (I J 1) f a) (ad (al P .eql 3 V c (I J 6)) λg=>ay (D g) (kP G b (I J 1) g a) (ad (al P .eql 3 V c (I J 8)) λh=>ay (D h) (kP G b (I J 1) h a) (ad (al P .eql 3 V c (I J 9)) λr=>kP G b (I J 1) r a))))))))
def akk(G:ai)(N:Nat)(c:aa)(d:aa)(H:af):aB Tryz.f224 G N (aO [c,d]) H=A4 G c d H:=by
 refine aT (A:=aB Tryz.f224 G N) ((ar j ((ar j ((ar j (akl G N) ((ar j ((aX j ((ar j ((bz j (aj _) ((ar j ((bz j (aj _) ((ar j ((bz j (aj _) ((ar j (akm G N) (aj _))))) (aj _))))) (aj _))))) (aj _))))) (aj _))))) (aj _))) (aj _))) ?_;delta A4;generalize kP G=a;generalize jS G=b;revert a b;refine id ?_;intro a b;kernel_rfl
def A5(G:ai)(c e:aa)(H:af):O:=aw H (G 124 [c] H) λg a=>ay (D g) (aw a (G 185 [e] a) λh b=>ad (aL c) λi=>ad (ak P 199 i 4) λf=>aF b (aC P b 58 f h) λd=>D (.tuple [],d)) (D (.tuple [],a))
def akn(G:ai)(N:Nat)(a:aa)(b:aa)(H:af):aB Tryz.f225 G N (aO [a,b]) H=A5 G a b H:=by
 refine aT (A:=aB Tryz.f225 G N) (aj _) ?_;delta A5;kernel_rfl
def tG(G:ai)(N:Nat)(d e:aa)(b f g:aa)(H:af):O:=ad (bu .not g) λh=>ay (D h) (ad (ak P 267 e 5) λi=>ad (ah P H 3 i) λj=>aw H (G 225 [d,j] H) λl a=>aF a (aC P a 267 b (.agg [I J 0,I J 0,X [],X [],I J 0,aa.ao,I J 0,I J 0,I J 0,I J 0,I J 0])) λc=>ad (ah P c 267 b) λr=>D (r,c)) (ad (ah P H 267 f) λk=>aF H (aC P H 267 b k) λa=>ad (ah P a 267 b) λr=>D (r,a))
def akr(G:ai)(N:Nat):∀C H,aD P G N (ae (ae (ae (ae (ae (ae (ae (ae (aG Tryz.f226))))))))) (ax Tryz.f226) [] (ax Tryz.f226) C H=tG G N (C 0) (C 3) (C 4) (C 6) (C 8) H:=by
 refine aI (aj _) λC H=> ?_
 delta tG;kernel_rfl
def tF(G:ai)(N:Nat)(c d:aa)(e f:aa)(H:af):O:=aw H (G 124 [c] H) λg a=>ad (bu .not g) λh=>ay (D h) (aF a (aC P a 267 e (.agg [I J 0,I J 0,X [],X [],I J 0,aa.ao,I J 0,I J 0,I J 0,I J 0,I J 0])) λb=>ad (ah P b 267 e) λr=>D (r,b)) (ad (ak P 267 d 0) λi=>ad (ah P a 3 i) λj=>ad (al P .geq 3 V j (I J 12)) λk=>ay (D k) (aw a (G 263 [c,f] a) λl b=>tG G N c d e f l b) (ad (ah P a 267 d) λm=>aw a (G 264 [c,m,f] a) λn b=>tG G N c d e f n b))
def akq(G:ai)(N:Nat):∀C H,aD P G N (ae (ae (ae (ae (ae (aG Tryz.f226)))))) (ax Tryz.f226) [] (ax Tryz.f226) C H=tF G N (C 0) (C 3) (C 4) (C 6) H:=by
 refine aI ((ar j ((ar j ((ar j (akr G N) (aj _))) (aj _))) (aj _))) λC H=> ?_
 delta tF;generalize tG G N=a;revert a;refine id ?_;intro a;kernel_rfl
def Gy(G:ai)(N:Nat)(E:aa->aa->aa->aa->aa->af->O)(e m:aa)(B n j:aa)(H:af):O:=ad (ak P 267 m 4) λF=>ad (ah P H 205 F) λK=>a1 P .len [205] [K] H λL=>ad (al P .lss 3 U j L) λu=>au u V H (aV e) λM s=>au u V s (λq=>bq s (G 124 [M] s) q) λQ c=>ad (aU u (D Q) (D (Z U))) λR=>ay (D R) (ad (ak P 267 m 4) λh=>ad (ah P c 205 h) λv=>ad (aH P 205 v j) λi=>ad (ah P c 267 i) λw=>aw c (G 227 [e,w] c) λx d=>ad (ak P 267 n 4) λg=>ad (ah P d 205 g) λa=>bE (a6 P .empty .len [205] [a]) (a6 P d .len [205] [a]) λf=>kW (f.heap d) (D (.ag ((f.heap d)).next 0 1 11 (D 1),.row U 11 [[I J 0,I J 0,X [],X [],I J 0,aa.ao,I J 0,I J 0,I J 0,I J 0,I J 0]])) λz b A=>aw A (bx P A [205,205] a z) λo k=>ad (aH P 205 o f.val) λp=>h7 k (aC P k 267 p x) λy l=>ad (ak P 267 n 4) λr=>h7 l (aC P l 205 r o) λC t=>bif Nk p r&&xt [0,1,0,0,8,0,56,120,252,3,0,2047,4095,8191,4095,20479] [11] [⟨2,.pure e,λH=>Y⟩,⟨3,.pure h,λH=>Y⟩,⟨4,.read v,λH=>ah P H 205 h⟩,⟨5,.pure j,λH=>Y⟩,⟨6,.pure i,λH=>Y⟩,⟨7,.read w,λH=>ah P H 267 i⟩,⟨8,.bs x d,λH=>Y⟩,⟨0,.pure g,λH=>Y⟩,⟨1,.read a,λH=>ah P H 205 g⟩,⟨9,f,λH=>a6 P H .len [205] [a]⟩,⟨10,.new z b,λH=>Y⟩,⟨11,.bs o k,λH=>Y⟩,⟨12,.pure p,λH=>Y⟩,⟨13,.bs y l,λH=>Y⟩,⟨14,.pure r,λH=>Y⟩,⟨15,.bs C t,λH=>Y⟩] c [⟨2,.pure e,λH=>Y⟩,⟨3,.pure h,λH=>Y⟩,⟨4,.read v,λH=>ah P H 205 h⟩,⟨5,.pure j,λH=>Y⟩,⟨6,.pure i,λH=>Y⟩,⟨7,.read w,λH=>ah P H 267 i⟩,⟨8,.bs x d,λH=>Y⟩,⟨0,.pure g,λH=>Y⟩,⟨1,.read a,λH=>ah P H 205 g⟩,⟨9,f,λH=>a6 P H .len [205] [a]⟩,⟨10,.new z b,λH=>Y⟩,⟨11,.bs o k,λH=>Y⟩,⟨12,.pure p,λH=>Y⟩,⟨13,.bs y l,λH=>Y⟩,⟨14,.pure r,λH=>Y⟩,⟨15,.bs C t,λH=>Y⟩]then(ad (al P .add 3 V j (I J 1)) λS=>E e m B n S t)else Y) (tF G N e m B n c)
def tH(G:ai)(N:Nat):Nat->aa->aa->aa->aa->aa->af->O
 |0,_,_,_,_,_,_=>Y
 |n+1,a,b,c,d,e,H=>Gy G N (tH G N n) a b c d e H
def ako(G:ai)(N:Nat)(b:aa->aa->aa->aa->aa->af->O):∀C H,aD P G N (aq (aq (ae (aq (ae (ae (ae (ae (aG Tryz.f226))))))))) (λC H=>b (C 0) (C 3) (C 4) (C 6) (C 7) H) [(0,(λC H=>tF G N (C 0) (C 3) (C 4) (C 6) H))] (ax Tryz.f226) C H=Gy G N b (C 0) (C 3) (C 4) (C 6) (C 7) H:=by
 refine aI (aj _) λC H=> ?_
 delta Gy;generalize tF G N=a;revert a;refine id ?_;intro a;kernel_rfl
def A6(G:ai)(N:Nat)(t ae:aa)(H:af):O:=aK H (bl (H).next ae) λa w=>ba w [I J 0,I J 0,X [],X [],I J 0,aa.ao,I J 0,I J 0,I J 0,I J 0,I J 0] λl j=>ad (ak P 267 a 0) λaY=>ad (ah P j 3 aY) λaj=>aw j (G 262 [aj] j) λk R=>ad (al P .eql 3 V k (I J (-2))) λf=>au f U R (aV k) λam S=>au f U S (aE (al P .geq 3 V am (I J 0))) λan T=>au f U T (aV an) λd W=>au d V W (aE (ak P 267 a 4)) λap p=>au d V p (qr (ah P p 205 ap)) λu s=>au d V s (λq=>bE (a6 P .empty .len [205] [u]) (a6 P s .len [205] [u]) q) λaq ab=>au d V ab (aV k) λar x=>au d V x (aE (al P .neq 3 U aq ar)) λav y=>au f U y (aE (aU d (D av) (D (Z U)))) λax z=>ad (aU f (D (Z V)) (D ax)) λb=>au b U z (aE (ak P 267 a 0)) λaz m=>au b U m (qr (ah P m 3 az)) λaA A=>au b U A (aE (al P .eql 3 V aA (I J 2))) λaB B=>au b U B (aV aB) λh C=>au h V C (aE (ak P 267 a 1)) λaD n=>au h V n (qr (ah P n 3 aD)) λaG E=>au h V E (aE (al P .neq 3 V aG (I J 0))) λaH F=>au b U F (aE (aU h (D aH) (D (Z U)))) λaI K=>au b U K (aV aI) λi L=>au i V L (aE (ak P 267 a 1)) λaJ o=>au i V o (qr (ah P o 3 aJ)) λaL M=>au i V M (aE (al P .neq 3 V aL (I J 1))) λaM Q=>au b U Q (aE (aU i (D aM) (D (Z U)))) λaN c=>ad (aU b (D (Z V)) (D aN)) λaO=>ay (D aO) (ad (ak P 267 a 5) λaP=>ad (ah P c 3 aP) λaQ=>aw c (G 225 [t,aQ] c) λaZ e=>aF e (aC P e 267 l (.agg [I J 0,I J 0,X [],X [],I J 0,aa.ao,I J 0,I J 0,I J 0,I J 0,I J 0])) λg=>ad (ah P g 267 l) λr=>D (r,g)) (ad (ak P 267 a 0) λaR=>ad (ah P c 3 aR) λaS=>ad (ak P 267 a 5) λaT=>ad (ah P c 3 aT) λaW=>ad (bo P 267 [(0,aS),(5,aW)]) λaX=>ba c [I J 0,I J 0,X [],X [],I J 0,aa.ao,I J 0,I J 0,I J 0,I J 0,I J 0] λv e=>aF e (aC P e 267 v aX) λg=>tH G N N t a l v (I J 0) g)
def akp(G:ai)(N:Nat)(b:aa)(c:aa)(H:af):aB Tryz.f226 G N (aO [b,c]) H=A6 G N b c H:=by
 refine aT (A:=aB Tryz.f226 G N) ((ar j ((ar j ((ar j ((ar j ((ar j (akq G N) ((ar j ((aX j ((a_ (k:=λm C H=>tH G N m (C 0) (C 3) (C 4) (C 6) (C 7) H) j (λC H=>j) (λm=>ako G N (tH G N m)))))) (aj _))))) (aj _))) (aj _))) (aj _))) (aj _))) ?_;delta A6;generalize tH G N N=a;revert a;refine id ?_;intro a;kernel_rfl
def tI(G:ai)(b d:aa)(H:af):O:=ad (ah P H 267 d) λc=>aF H (aC P H 267 b c) λa=>ad (ah P a 267 b) λr=>D (r,a)
def akt(G:ai)(N:Nat):∀C H,aD P G N (ae (ae (ae (aG Tryz.f227)))) (ax Tryz.f227) [] (ax Tryz.f227) C H=tI G (C 4) (C 5) H:=by
 refine aI (aj _) λC H=> ?_
 delta tI;kernel_rfl
def A7(G:ai)(e q:aa)(H:af):O:=aK H (bl (H).next q) λi k=>ba k [I J 0,I J 0,X [],X [],I J 0,aa.ao,I J 0,I J 0,I J 0,I J 0,I J 0] λj d=>ad (ah P d 267 i) λy=>aw d (G 226 [e,y] d) λz m=>ba m [I J 0,I J 0,X [],X [],I J 0,aa.ao,I J 0,I J 0,I J 0,I J 0,I J 0] λc f=>aF f (aC P f 267 c z) λg=>aw g (G 124 [e] g) λa n=>au a V n (aE (ak P 267 c 6)) λr h=>au a V h (qr (ah P h 43 r)) λs o=>au a V o (aV (.agg [I J 0,I J 0,I J 0])) λt p=>au a V p (aE (al P .eql 43 U s t)) λu b=>ad (aU a (D u) (D (Z U))) λv=>ay (D v) (ad (ak P 267 i 5) λw=>ad (ah P b 3 w) λx=>aw b (G 225 [e,x] b) λA l=>tI G j c l) (tI G j c b)
def aks(G:ai)(N:Nat)(b:aa)(c:aa)(H:af):aB Tryz.f227 G N (aO [b,c]) H=A7 G b c H:=by
 refine aT (A:=aB Tryz.f227 G N) ((ar j ((ar j ((ar j (akt G N) (aj _))) (aj _))) (aj _))) ?_;delta A7;generalize tI G=a;revert a;refine id ?_;intro a;kernel_rfl
def tK(G:ai)(N:Nat)(b:aa)(H:af):O:=aF H (aC P H 43 b (.agg [I J 0,I J 0,I J 0])) λa=>ad (ah P a 43 b) λr=>D (.tuple [I J 0,r,Z U],a)
def aky(G:ai)(N:Nat):∀C H,aD P G N (ae (ae (ae (aG Tryz.f228)))) (ax Tryz.f228) [] (ax Tryz.f228) C H=tK G N (C 5) H:=by
 refine aI (aj _) λC H=> ?_
 delta tK;kernel_rfl
def Gz(G:ai)(N:Nat)(f:aa->aa->aa->aa->af->O)(b e:aa)(c a:aa)(H:af):O:=ad (aL b) λg=>ad (ak P 199 g 0) λh=>ad (ak P 126 h 1) λi=>ad (ah P H 123 i) λj=>a1 P .len [123] [j] H λk=>ad (al P .lss 3 U a k) λl=>ay (D l) (ad (aL b) λn=>ad (ak P 199 n 0) λo=>ad (ak P 126 o 1) λp=>ad (ah P H 123 p) λq=>ad (aH P 123 q a) λs=>ad (ak P 135 s 0) λt=>ad (ah P H 9 t) λu=>ad (al P .eql 9 U u e) λv=>ay (D v) (ad (al P .sub 3 V (I J (-1)) a) λw=>ad (aL b) λx=>ad (ak P 199 x 0) λy=>ad (ak P 126 y 1) λz=>ad (ah P H 123 z) λA=>ad (aH P 123 A a) λB=>ad (ak P 135 B 1) λC=>ad (ah P H 43 C) λE=>aF H (aC P H 43 c E) λd=>ad (ah P d 43 c) λr=>D (.tuple [w,r,Z V],d)) (ad (al P .add 3 V a (I J 1)) λm=>f b e c m H)) (tK G N c H)
def tL(G:ai)(N:Nat):Nat->aa->aa->aa->aa->af->O
 |0,_,_,_,_,_=>Y
 |n+1,a,b,c,d,H=>Gz G N (tL G N n) a b c d H
def aku(G:ai)(N:Nat)(b:aa->aa->aa->aa->af->O):∀C H,aD P G N (aq (aq (ae (aq (ae (ae (aG Tryz.f228))))))) (λC H=>b (C 0) (C 1) (C 5) (C 8) H) [(2,(λC H=>tK G N (C 5) H))] (ax Tryz.f228) C H=Gz G N b (C 0) (C 1) (C 5) (C 8) H:=by
 refine aI (aj _) λC H=> ?_
 delta Gz;generalize tK G N=a;revert a;refine id ?_;intro a;kernel_rfl
def tJ(G:ai)(N:Nat)(a b c:aa)(H:af):O:=tL G N N a b c (I J 0) H
def akx(G:ai)(N:Nat):∀C H,aD P G N (ae (ae (aG Tryz.f228))) (ax Tryz.f228) [] (ax Tryz.f228) C H=tJ G N (C 0) (C 1) (C 5) H:=by
 refine aI ((ar j (aky G N) ((ar j ((aX j ((a_ (k:=λm C H=>tL G N m (C 0) (C 1) (C 5) (C 8) H) j (λC H=>j) (λm=>aku G N (tL G N m)))))) (aj _))))) λC H=> ?_
 delta tJ;generalize tL G N N=a;revert a;refine id ?_;intro a;kernel_rfl
def GA(G:ai)(N:Nat)(f:aa->aa->aa->aa->af->O)(a d:aa)(c b:aa)(H:af):O:=ad (aL a) λg=>ad (ak P 199 g 3) λh=>ad (ah P H 123 h) λi=>a1 P .len [123] [i] H λj=>ad (al P .lss 3 U b j) λk=>ay (D k) (ad (aL a) λm=>ad (ak P 199 m 3) λn=>ad (ah P H 123 n) λo=>ad (aH P 123 o b) λp=>ad (ak P 135 p 0) λq=>ad (ah P H 9 q) λs=>ad (al P .eql 9 U s d) λt=>ay (D t) (ad (aL a) λu=>ad (ak P 199 u 3) λv=>ad (ah P H 123 v) λw=>ad (aH P 123 w b) λx=>ad (ak P 135 x 1) λy=>ad (ah P H 43 y) λz=>aF H (aC P H 43 c z) λe=>ad (ah P e 43 c) λr=>D (.tuple [b,r,Z V],e)) (ad (al P .add 3 V b (I J 1)) λl=>f a d c l H)) (tJ G N a d c H)
def tM(G:ai)(N:Nat):Nat->aa->aa->aa->aa->af->O
 |0,_,_,_,_,_=>Y
 |n+1,a,b,c,d,H=>GA G N (tM G N n) a b c d H
def akv(G:ai)(N:Nat)(b:aa->aa->aa->aa->af->O):∀C H,aD P G N (aq (aq (ae (aq (ae (aG Tryz.f228)))))) (λC H=>b (C 0) (C 1) (C 5) (C 7) H) [(0,(λC H=>tJ G N (C 0) (C 1) (C 5) H))] (ax Tryz.f228) C H=GA G N b (C 0) (C 1) (C 5) (C 7) H:=by
 refine aI (aj _) λC H=> ?_
 delta GA;generalize tJ G N=a;revert a;refine id ?_;intro a;kernel_rfl
def A8(G:ai)(N:Nat)(b c:aa)(H:af):O:=ba H [I J 0,I J 0,I J 0] λd a=>tM G N N b c d (I J 0) a
def akw(G:ai)(N:Nat)(b:aa)(c:aa)(H:af):aB Tryz.f228 G N (aO [b,c]) H=A8 G N b c H:=by
 refine aT (A:=aB Tryz.f228 G N) ((ar j ((ar j (akx G N) ((ar j ((aX j ((a_ (k:=λm C H=>tM G N m (C 0) (C 1) (C 5) (C 7) H) j (λC H=>j) (λm=>akv G N (tM G N m)))))) (aj _))))) (aj _))) ?_;delta A8;generalize tM G N N=a;revert a;refine id ?_;intro a;kernel_rfl
def A9(G:ai)(H:af):O:=ba H [I J 0,I J 0,I J 0] λc a=>aF a (aC P a 43 c (.agg [I J 2,I J 0,I J 0])) λb=>ad (ah P b 43 c) λr=>D (r,b)
def akz(G:ai)(N:Nat)(H:af):aB Tryz.f229 G N (aO []) H=A9 G H:=by
 refine aT (A:=aB Tryz.f229 G N) (aj _) ?_;delta A9;kernel_rfl
def A_(G:ai)(H:af):O:=ba H [I J 0,I J 0,I J 0] λc a=>aF a (aC P a 43 c (.agg [I J 1,I J 0,I J 0])) λb=>ad (ah P b 43 c) λr=>D (r,b)
def akA(G:ai)(N:Nat)(H:af):aB Tryz.f230 G N (aO []) H=A_ G H:=by
 refine aT (A:=aB Tryz.f230 G N) (aj _) ?_;delta A_;kernel_rfl
def j7(G:ai)(H:af):O:=some ((I J (-2)),H)
def amq(G:ai)(N:Nat):∀C H,aD P G N (ae (ae (aG Tryz.f262))) (ax Tryz.f262) [] (ax Tryz.f262) C H=j7 G H:=by
 refine aI (aj _) λC H=> ?_
 delta j7;kernel_rfl
def ig(G:ai)(a:aa)(H:af):O:=ay (D a) (D ((I J 2),H)) (j7 G H)
def amt(G:ai)(N:Nat):∀C H,aD P G N (ae (ae (ae (ae (ae (ae (ae (aq (ae (aq (ae (aG Tryz.f262)))))))))))) (λC H=>j7 G H) [(0,(λC H=>j7 G H))] (ax Tryz.f262) C H=ig G (C 19) H:=by
 refine aI (aj _) λC H=> ?_
 delta ig;generalize j7 G=a;revert a;refine id ?_;intro a;kernel_rfl
def l6(G:ai)(a m:aa)(H:af):O:=ay (D m) (D ((I J 1),H)) (ad (al P .eql 3 V a (I J 7)) λn=>ay (D n) (D ((I J (-1)),H)) (ad (al P .eql 3 V a (I J 6)) λb=>ay (D b) (ig G b H) (ad (al P .eql 3 V a (I J 14)) λc=>ay (D c) (ig G c H) (ad (al P .eql 3 V a (I J 15)) λd=>ay (D d) (ig G d H) (ad (al P .eql 3 V a (I J 16)) λe=>ay (D e) (ig G e H) (ad (al P .eql 3 V a (I J 17)) λf=>ay (D f) (ig G f H) (ad (al P .eql 3 V a (I J 18)) λg=>ay (D g) (ig G g H) (ad (al P .eql 3 V a (I J 19)) λh=>ay (D h) (ig G h H) (ad (al P .eql 3 V a (I J 20)) λi=>ay (D i) (ig G i H) (ad (al P .eql 3 V a (I J 21)) λj=>ay (D j) (ig G j H) (ad (al P .eql 3 V a (I J 22)) λk=>ay (D k) (ig G k H) (ad (al P .eql 3 V a (I J 23)) λl=>ay (D l) (ig G l H) (ad (al P .eql 3 V a (I J 24)) λo=>ig G o H)))))))))))))
def ams(G:ai)(N:Nat):∀C H,aD P G N (ae (ae (ae (aq (ae (aq (ae (aG Tryz.f262)))))))) (λC H=>j7 G H) [(0,(λC H=>j7 G H))] (ax Tryz.f262) C H=l6 G (C 3) (C 11) H:=by
 refine aI ((bz j (aj _) ((ar j ((bz j (aj _) ((ar j (amt G N) (aj _))))) (aj _))))) λC H=> ?_
 delta l6;generalize ig G=a;revert a;refine id ?_;intro a;kernel_rfl
def kS(G:ai)(a g:aa)(H:af):O:=ay (D g) (D ((I J 0),H)) (ad (al P .eql 3 V a (I J 5)) λb=>ay (D b) (l6 G a b H) (ad (al P .eql 3 V a (I J 9)) λc=>ay (D c) (l6 G a c H) (ad (al P .eql 3 V a (I J 10)) λd=>ay (D d) (l6 G a d H) (ad (al P .eql 3 V a (I J 12)) λe=>ay (D e) (l6 G a e H) (ad (al P .eql 3 V a (I J 13)) λf=>l6 G a f H)))))
def amr(G:ai)(N:Nat):∀C H,aD P G N (ae (aq (ae (aq (ae (aG Tryz.f262)))))) (λC H=>j7 G H) [(0,(λC H=>j7 G H))] (ax Tryz.f262) C H=kS G (C 3) (C 4) H:=by
 refine aI ((bz j (aj _) ((ar j (ams G N) (aj _))))) λC H=> ?_
 delta kS;generalize l6 G=a;revert a;refine id ?_;intro a;kernel_rfl
def BG(G:ai)(a:aa)(H:af):O:=ad (al P .eql 3 V a (I J 1)) λb=>ay (D b) (kS G a b H) (ad (al P .eql 3 V a (I J 2)) λc=>ay (D c) (kS G a c H) (ad (al P .eql 3 V a (I J 3)) λd=>ay (D d) (kS G a d H) (ad (al P .eql 3 V a (I J 4)) λe=>ay (D e) (kS G a e H) (ad (al P .eql 3 V a (I J 8)) λf=>ay (D f) (kS G a f H) (ad (al P .eql 3 V a (I J 11)) λg=>kS G a g H)))))
def amp(G:ai)(N:Nat)(b:aa)(H:af):aB Tryz.f262 G N (aO [b]) H=BG G b H:=by
 refine aT (A:=aB Tryz.f262 G N) ((ar j ((ar j (amq G N) ((ar j ((aX j ((ar j (amr G N) (aj _))))) (aj _))))) (aj _))) ?_;delta BG;generalize kS G=a;revert a;refine id ?_;intro a;kernel_rfl
def j8(G:ai)(m i j:aa)(H:af):O:=aw H (G 229 [] H) λn h=>ad (aL m) λo=>ad (ak P 267 o 6) λp=>aF h (aC P h 43 p n) λd=>aw d (G 229 [] d) λl a=>ad (ah P a 43 i) λk=>ad (al P .eql 43 U k l) λb=>aM b V (λq=>bq a (G 229 [] a) q) λc=>aM b V (qr (ah P (c.heap a) 43 j)) λe=>aM b V (aE (al P .eql 43 U e.val c.val)) λf=>ad (aU b (D f.val) (D (Z U))) λg=>bif dF [0,0,3,7,15,15,63,127,255] [1,2,3,5,6,7,8] [⟨1,.bs l a,λH=>Y⟩,⟨0,.read k,λH=>ah P H 43 i⟩,⟨2,.pure b,λH=>Y⟩,⟨3,.pure b,λH=>Y⟩,⟨5,c,λH=>Y⟩,⟨4,e,λH=>ah P H 43 j⟩,⟨6,f,λH=>Y⟩,⟨7,.pure g,λH=>Y⟩,⟨8,.pure g,λH=>Y⟩] d then(D (g,(f.heap (e.heap (c.heap a)))))else Y
def amw(G:ai)(N:Nat):∀C H,aD P G N (ae (ae (ae (ae (ae (aG Tryz.f263)))))) (ax Tryz.f263) [] (ax Tryz.f263) C H=j8 G (C 1) (C 5) (C 6) H:=by
 refine aI (aj _) λC H=> ?_
 delta j8;kernel_rfl
def u6(G:ai)(c d:aa)(e f:aa)(H:af):O:=ay (D f) (aw H (G 229 [] H) λg b=>ad (aL c) λh=>ad (ak P 267 h 6) λi=>aF b (aC P b 43 i g) λa=>ad (ah P a 43 d) λj=>ad (ah P a 43 e) λk=>ad (al P .eql 43 U j k) λl=>D (l,a)) (j8 G c d e H)
def amz(G:ai)(N:Nat):∀C H,aD P G N (ae (ae (ae (ae (ae (aq (ae (aq (ae (ae (ae (ae (aG Tryz.f263))))))))))))) (λC H=>j8 G (C 1) (C 5) (C 6) H) [(0,(λC H=>j8 G (C 1) (C 5) (C 6) H))] (ax Tryz.f263) C H=u6 G (C 1) (C 5) (C 6) (C 66) H:=by
 refine aI (aj _) λC H=> ?_
 delta u6;generalize j8 G=a;revert a;refine id ?_;intro a;kernel_rfl
def u5(G:ai)(i d:aa)(e l p:aa)(H:af):O:=ay (D p) (aw H (G 229 [] H) λr k=>ad (aL i) λs=>ad (ak P 267 s 6) λt=>aF k (aC P k 43 t r) λf=>aw f (G 230 [] f) λn a=>ad (ah P a 43 d) λm=>ad (al P .eql 43 U m n) λb=>aM b V (λq=>bq a (G 230 [] a) q) λc=>aM b V (qr (ah P (c.heap a) 43 e)) λg=>aM b V (aE (al P .eql 43 U g.val c.val)) λh=>ad (aU b (D h.val) (D (Z U))) λj=>bif dF [0,0,3,7,15,15,63,127,255] [1,2,3,5,6,7,8] [⟨1,.bs n a,λH=>Y⟩,⟨0,.read m,λH=>ah P H 43 d⟩,⟨2,.pure b,λH=>Y⟩,⟨3,.pure b,λH=>Y⟩,⟨5,c,λH=>Y⟩,⟨4,g,λH=>ah P H 43 e⟩,⟨6,h,λH=>Y⟩,⟨7,.pure j,λH=>Y⟩,⟨8,.pure j,λH=>Y⟩] f then(D (j,(h.heap (g.heap (c.heap a)))))else Y) (ad (al P .eql 3 V l (I J 21)) λo=>ay (D o) (u6 G i d e o H) (ad (al P .eql 3 V l (I J 22)) λu=>u6 G i d e u H))
def amy(G:ai)(N:Nat):∀C H,aD P G N (ae (ae (ae (aq (ae (aq (ae (ae (ae (ae (aG Tryz.f263))))))))))) (λC H=>j8 G (C 1) (C 5) (C 6) H) [(0,(λC H=>j8 G (C 1) (C 5) (C 6) H))] (ax Tryz.f263) C H=u5 G (C 1) (C 5) (C 6) (C 31) (C 51) H:=by
 refine aI ((bz j (aj _) ((ar j (amz G N) (aj _))))) λC H=> ?_
 delta u5;generalize u6 G=a;revert a;refine id ?_;intro a;kernel_rfl
def kT(G:ai)(j e:aa)(f d p:aa)(H:af):O:=ay (D p) (aw H (G 230 [] H) λr l=>ad (aL j) λs=>ad (ak P 267 s 6) λt=>aF l (aC P l 43 t r) λg=>aw g (G 230 [] g) λn a=>ad (ah P a 43 e) λm=>ad (al P .eql 43 U m n) λb=>aM b V (λq=>bq a (G 230 [] a) q) λc=>aM b V (qr (ah P (c.heap a) 43 f)) λh=>aM b V (aE (al P .eql 43 U h.val c.val)) λi=>ad (aU b (D i.val) (D (Z U))) λk=>bif dF [0,0,3,7,15,15,63,127,255] [1,2,3,5,6,7,8] [⟨1,.bs n a,λH=>Y⟩,⟨0,.read m,λH=>ah P H 43 e⟩,⟨2,.pure b,λH=>Y⟩,⟨3,.pure b,λH=>Y⟩,⟨5,c,λH=>Y⟩,⟨4,h,λH=>ah P H 43 f⟩,⟨6,i,λH=>Y⟩,⟨7,.pure k,λH=>Y⟩,⟨8,.pure k,λH=>Y⟩] g then(D (k,(i.heap (h.heap (c.heap a)))))else Y) (ad (al P .eql 3 V d (I J 19)) λo=>ay (D o) (u5 G j e f d o H) (ad (al P .eql 3 V d (I J 20)) λu=>u5 G j e f d u H))
def amx(G:ai)(N:Nat):∀C H,aD P G N (ae (aq (ae (aq (ae (ae (ae (ae (aG Tryz.f263))))))))) (λC H=>j8 G (C 1) (C 5) (C 6) H) [(0,(λC H=>j8 G (C 1) (C 5) (C 6) H))] (ax Tryz.f263) C H=kT G (C 1) (C 5) (C 6) (C 31) (C 32) H:=by
 refine aI ((bz j (aj _) ((ar j (amy G N) (aj _))))) λC H=> ?_
 delta kT;generalize u5 G=a;revert a;refine id ?_;intro a;kernel_rfl
def u4(G:ai)(b c d:aa)(H:af):O:=ad (aL b) λj=>ad (ak P 267 j 0) λk=>ad (ah P H 3 k) λa=>ad (al P .eql 3 V a (I J 12)) λe=>ay (D e) (kT G b c d a e H) (ad (al P .eql 3 V a (I J 14)) λf=>ay (D f) (kT G b c d a f H) (ad (al P .eql 3 V a (I J 15)) λg=>ay (D g) (kT G b c d a g H) (ad (al P .eql 3 V a (I J 16)) λh=>ay (D h) (kT G b c d a h H) (ad (al P .eql 3 V a (I J 17)) λi=>ay (D i) (kT G b c d a i H) (ad (al P .eql 3 V a (I J 18)) λl=>kT G b c d a l H)))))
def amv(G:ai)(N:Nat):∀C H,aD P G N (ae (ae (ae (ae (aG Tryz.f263))))) (ax Tryz.f263) [] (ax Tryz.f263) C H=u4 G (C 1) (C 5) (C 6) H:=by
 refine aI ((ar j (amw G N) ((ar j ((aX j ((ar j (amx G N) (aj _))))) (aj _))))) λC H=> ?_
 delta u4;generalize kT G=a;revert a;refine id ?_;intro a;kernel_rfl
def BH(G:ai)(A b:aa)(H:af):O:=ad (aL b) λy=>ad (ak P 267 y 4) λz=>ad (ah P H 205 z) λi=>ad (aH P 205 i (I J 0)) λj=>ad (ak P 267 j 6) λk=>ad (ah P H 43 k) λl=>ba H [I J 0,I J 0,I J 0] λc e=>aF e (aC P e 43 c l) λf=>ad (ah P f 43 c) λm=>ba f [I J 0,I J 0,I J 0] λd g=>aF g (aC P g 43 d m) λa=>ad (aL b) λn=>ad (ak P 267 n 4) λo=>ad (ah P a 205 o) λp=>a1 P .len [205] [p] a λq=>ad (al P .eql 3 V q (I J 2)) λr=>ay (D r) (ad (aL b) λs=>ad (ak P 267 s 4) λt=>ad (ah P a 205 t) λu=>ad (aH P 205 u (I J 1)) λv=>ad (ak P 267 v 6) λw=>ad (ah P a 43 w) λx=>aF a (aC P a 43 d x) λh=>u4 G b c d h) (u4 G b c d a)
def amu(G:ai)(N:Nat)(b:aa)(c:aa)(H:af):aB Tryz.f263 G N (aO [b,c]) H=BH G b c H:=by
 refine aT (A:=aB Tryz.f263 G N) ((ar j ((ar j ((ar j ((ar j (amv G N) (aj _))) (aj _))) (aj _))) (aj _))) ?_;delta BH;generalize u4 G=a;revert a;refine id ?_;intro a;kernel_rfl
def kU(G:ai)(N:Nat)(b c f:aa)(H:af):O:=ad (ah P H 267 f) λd=>aw H (G 299 [b,d,c] H) λe a=>D (e,a)
def amC(G:ai)(N:Nat):∀C H,aD P G N (ae (ae (aG Tryz.f264))) (ax Tryz.f264) [] (ax Tryz.f264) C H=kU G N (C 0) (C 2) (C 4) H:=by
 refine aI (aj _) λC H=> ?_
 delta kU;kernel_rfl
def u9(G:ai)(N:Nat)(H:af):O:=some ((Z U),H)
def amE(G:ai)(N:Nat):∀C H,aD P G N (ae (ae (ae (ae (ae (aq (ae (ae (ae (ae (ae (ae (ae (ae (ae (ae (ae (ae (ae (ae (ae (ae (ae (aq (ae (aq (ae (aG Tryz.f264)))))))))))))))))))))))))))) (λC H=>kU G N (C 0) (C 2) (C 4) H) [(0,(λC H=>kU G N (C 0) (C 2) (C 4) H))] (ax Tryz.f264) C H=u9 G N H:=by
 refine aI (aj _) λC H=> ?_
 delta u9;kernel_rfl
def Ha(G:ai)(N:Nat)(f:aa->aa->aa->aa->af->O)(d e:aa)(b a:aa)(H:af):O:=a1 P .len [123] [b] H λh=>ad (al P .lss 3 U a h) λi=>ay (D i) (ad (aH P 123 b a) λk=>ad (ak P 135 k 0) λl=>ad (ah P H 9 l) λm=>ad (ak P 267 e 2) λn=>ad (ah P H 9 n) λo=>ad (al P .eql 9 U m o) λp=>ay (D p) (ad (aL d) λq=>ad (ak P 267 q 7) λr=>aF H (aC P H 3 r a) λc=>ad (aH P 123 b a) λs=>ad (ak P 135 s 1) λt=>ad (ah P c 43 t) λu=>ad (aL d) λv=>ad (ak P 267 v 6) λw=>aF c (aC P c 43 w u) λg=>D ((Z V),g)) (ad (al P .add 3 V a (I J 1)) λj=>f d e b j H)) (u9 G N H)
def u_(G:ai)(N:Nat):Nat->aa->aa->aa->aa->af->O
 |0,_,_,_,_,_=>Y
 |n+1,c,d,a,b,H=>Ha G N (u_ G N n) c d a b H
def amA(G:ai)(N:Nat)(b:aa->aa->aa->aa->af->O):∀C H,aD P G N (aq (aq (ae (aq (ae (ae (ae (ae (aq (ae (ae (ae (ae (ae (ae (ae (ae (ae (ae (ae (ae (ae (ae (ae (ae (ae (aq (ae (aq (ae (aG Tryz.f264))))))))))))))))))))))))))))))) (λC H=>b (C 2) (C 4) (C 16) (C 17) H) [(1,(λC H=>u9 G N H)),(0,(λC H=>kU G N (C 0) (C 2) (C 4) H))] (ax Tryz.f264) C H=Ha G N b (C 2) (C 4) (C 16) (C 17) H:=by
 refine aI (aj _) λC H=> ?_
 delta Ha;generalize u9 G N=a;revert a;refine id ?_;intro a;kernel_rfl
def u7(G:ai)(N:Nat)(x d:aa)(r z cf:aa)(H:af):O:=ay (D cf) (ad (ak P 267 r 3) λcg=>ad (ah P H 114 cg) λch=>ad (aL d) λci=>ad (ak P 267 ci 3) λcj=>aF H (aC P H 114 cj ch) λa=>ad (aL x) λck=>ad (ak P 199 ck 1) λam=>ad (ah P a 77 am) λan=>ad (ak P 267 r 3) λap=>ad (ah P a 114 ap) λaq=>aw a (G 187 [an,aq] a) λar c=>ad (bJ ar 0) λcl=>ba c [I J 0,I J 0,I J 0] λE b=>aF b (aC P b 43 E cl) λf=>ad (bJ ar 1) λT=>bif ((aJ (ah P a 77 am) an&&V)&&((aJ (ah P a 114 ap) aq&&V)&&V))then(ad (ah P f 43 E) λcm=>ad (aL d) λcn=>ad (ak P 267 cn 6) λco=>aF f (aC P f 43 co cm) λe=>au T V e (qr (ah P e 43 E)) λcp n=>au T V n (λq=>bq n (G 90 [cp] n) q) λcq aO=>ad (aU T (D cq) (D (Z U))) λv=>au v V aO (aE (ak P 267 r 0)) λcr ab=>au v V ab (qr (ah P ab 3 cr)) λcs aP=>au v V aP (aE (al P .eql 3 V cs (I J 3))) λct aD=>au v V aD (aV ct) λF aG=>au F U aG (aE (ak P 43 E 2)) λcu W=>au F U W (qr (ah P W 3 cu)) λcv aI=>au F U aI (aE (al P .eql 3 V cv (I J 0))) λcw aK=>au v V aK (aE (aU F (D (Z V)) (D cw))) λcx aN=>ad (aU v (D cx) (D (Z U))) λcy=>D (cy,aN))else Y) (ad (al P .eql 3 V z (I J 9)) λcz=>ay (D cz) (ad (ak P 267 r 3) λcA=>ad (ah P H 114 cA) λcB=>ad (aL d) λcC=>ad (ak P 267 cC 3) λcD=>aF H (aC P H 114 cD cB) λa=>ad (aL x) λcE=>ad (ak P 199 cE 1) λav=>ad (ah P a 77 av) λax=>ad (ak P 267 r 3) λaz=>ad (ah P a 114 az) λaA=>aw a (G 187 [ax,aA] a) λaB c=>ad (bJ aB 0) λaQ=>ba c [I J 0,I J 0,I J 0] λA b=>aF b (aC P b 43 A aQ) λf=>ad (bJ aB 1) λu=>bif ((aJ (ah P a 77 av) ax&&V)&&((aJ (ah P a 114 az) aA&&V)&&V))then(ad (ak P 43 A 0) λaR=>ad (ah P f 3 aR) λaS=>ad (ak P 43 A 1) λaT=>ad (ah P f 3 aT) λaW=>ad (ak P 43 A 2) λaX=>ad (ah P f 3 aX) λaY=>ad (al P .add 3 V aY (I J 1)) λaZ=>ad (bo P 43 [(0,aS),(1,aW),(2,aZ)]) λa0=>ad (aL d) λa1=>ad (ak P 267 a1 6) λa2=>aF f (aC P f 43 a2 a0) λe=>aM u V (aE (ak P 43 A 2)) λg=>aM u V (qr (ah P (g.heap e) 3 g.val)) λh=>aM u V (aE (al P .lss 3 V h.val (I J 3))) λi=>ad (aU u (D i.val) (D (Z U))) λl=>aM l V (λq=>bq (i.heap (h.heap (g.heap e))) (G 230 [] (i.heap (h.heap (g.heap e)))) q) λj=>aM l V (aV d) λo=>aM l V (aE (aL o.val)) λp=>aM l V (aE (ak P 267 p.val 4)) λk=>aM l V (qr (ah P (k.heap (p.heap (o.heap (j.heap (i.heap (h.heap (g.heap e))))))) 205 k.val)) λs=>aM l V (aE (aH P 205 s.val (I J 0))) λt=>aM l V (aE (ak P 267 t.val 6)) λw=>aM l V (qr (ah P (w.heap (t.heap (s.heap (k.heap (p.heap (o.heap (j.heap (i.heap (h.heap (g.heap e)))))))))) 43 w.val)) λK=>aM l V (aE (al P .eql 43 U K.val j.val)) λL=>ad (aU l (D L.val) (D (Z U))) λM=>bif dF [0,1,3,7,15,31,63,127,255,511,1023,2047,4095,8191,127,32767,65535,131071] [0,1,2,3,4,5,6,14,15,16,17] [⟨0,.pure u,λH=>Y⟩,⟨1,.pure u,λH=>Y⟩,⟨2,g,λH=>Y⟩,⟨3,h,λH=>ah P H 3 g.val⟩,⟨4,i,λH=>Y⟩,⟨5,.pure l,λH=>Y⟩,⟨6,.pure l,λH=>Y⟩,⟨14,j,λH=>Y⟩,⟨7,o,λH=>Y⟩,⟨8,p,λH=>Y⟩,⟨9,k,λH=>Y⟩,⟨10,s,λH=>ah P H 205 k.val⟩,⟨11,t,λH=>Y⟩,⟨12,w,λH=>Y⟩,⟨13,K,λH=>ah P H 43 w.val⟩,⟨15,L,λH=>Y⟩,⟨16,.pure M,λH=>Y⟩,⟨17,.pure M,λH=>Y⟩] e then(D (M,(L.heap (K.heap (w.heap (t.heap (s.heap (k.heap (p.heap (o.heap (j.heap (i.heap (h.heap (g.heap e))))))))))))))else Y)else Y) (ad (al P .eql 3 V z (I J 4)) λa3=>ay (D a3) (ad (ak P 267 r 2) λa4=>ad (ah P H 9 a4) λa5=>ad (aL d) λa6=>ad (ak P 267 a6 2) λa7=>aF H (aC P H 9 a7 a5) λa=>ad (ak P 267 r 2) λa8=>ad (ah P a 9 a8) λa9=>aw a (G 228 [x,a9] a) λQ c=>ad (bJ Q 0) λa_=>ad (bJ Q 1) λbb=>ad (bJ Q 2) λbc=>ba c [I J 0,I J 0,I J 0] λae b=>aF b (aC P b 43 ae bb) λf=>ad (aL d) λbd=>ad (ak P 267 bd 7) λbe=>aF f (aC P f 3 be a_) λe=>ad (ah P e 43 ae) λbf=>ad (aL d) λbg=>ad (ak P 267 bg 6) λbh=>aF e (aC P e 43 bh bf) λn=>D (bc,n)) (ad (al P .eql 3 V z (I J 10)) λbi=>ay (D bi) (aw H (G 230 [] H) λbj a=>ad (aL d) λbk=>ad (ak P 267 bk 6) λbl=>aF a (aC P a 43 bl bj) λc=>ad (aL d) λbm=>ad (ak P 267 bm 4) λbn=>ad (ah P c 205 bn) λbp=>ad (aH P 205 bp (I J 0)) λbr=>ad (ak P 267 br 6) λbt=>ad (ak P 43 bt 2) λbu=>ad (ah P c 3 bu) λbv=>ad (al P .gtr 3 V bv (I J 0)) λbw=>D (bw,c)) (ad (al P .eql 3 V z (I J 6)) λbx=>ay (D bx) (ad (aL d) λbz=>ad (ak P 267 bz 4) λbA=>ad (ah P H 205 bA) λbB=>ad (aH P 205 bB (I J 0)) λbC=>ad (ak P 267 bC 6) λbD=>ad (ah P H 43 bD) λbE=>ba H [I J 0,I J 0,I J 0] λy a=>aF a (aC P a 43 y bE) λc=>ad (ak P 43 y 0) λbF=>ad (ah P c 3 bF) λbG=>ad (ak P 43 y 1) λbH=>ad (ah P c 3 bH) λbI=>ad (ak P 43 y 2) λbK=>ad (ah P c 3 bK) λbL=>ad (al P .sub 3 V bL (I J 1)) λbM=>ad (bo P 43 [(0,bG),(1,bI),(2,bM)]) λbN=>ad (aL d) λbO=>ad (ak P 267 bO 6) λbP=>aF c (aC P c 43 bP bN) λb=>ad (ak P 43 y 2) λR=>ad (ah P b 3 R) λaj=>ad (al P .gtr 3 V aj (I J 0)) λm=>aM m V (λq=>bq b (G 230 [] b) q) λg=>aM m V (aV d) λh=>aM m V (aE (aL h.val)) λi=>aM m V (aE (ak P 267 i.val 4)) λj=>aM m V (qr (ah P (j.heap (i.heap (h.heap (g.heap b)))) 205 j.val)) λo=>aM m V (aE (aH P 205 o.val (I J 1))) λp=>aM m V (aE (ak P 267 p.val 6)) λk=>aM m V (qr (ah P (k.heap (p.heap (o.heap (j.heap (i.heap (h.heap (g.heap b))))))) 43 k.val)) λs=>aM m V (aE (al P .eql 43 U s.val g.val)) λt=>ad (aU m (D t.val) (D (Z U))) λS=>bif dF [0,1,3,7,15,31,63,127,255,511,1023,15,4095,8191,16383] [0,1,2,3,11,12,13,14] [⟨0,.pure R,λH=>Y⟩,⟨1,.read aj,λH=>ah P H 3 R⟩,⟨2,.pure m,λH=>Y⟩,⟨3,.pure m,λH=>Y⟩,⟨11,g,λH=>Y⟩,⟨4,h,λH=>Y⟩,⟨5,i,λH=>Y⟩,⟨6,j,λH=>Y⟩,⟨7,o,λH=>ah P H 205 j.val⟩,⟨8,p,λH=>Y⟩,⟨9,k,λH=>Y⟩,⟨10,s,λH=>ah P H 43 k.val⟩,⟨12,t,λH=>Y⟩,⟨13,.pure S,λH=>Y⟩,⟨14,.pure S,λH=>Y⟩] b then(D (S,(t.heap (s.heap (k.heap (p.heap (o.heap (j.heap (i.heap (h.heap (g.heap b)))))))))))else Y) (ad (al P .eql 3 V z (I J 5)) λbQ=>ay (D bQ) (ad (ak P 267 r 2) λbR=>ad (ah P H 9 bR) λbS=>ad (aL d) λbT=>ad (ak P 267 bT 2) λbU=>aF H (aC P H 9 bU bS) λa=>ad (aL d) λbV=>ad (ak P 267 bV 4) λbW=>ad (ah P a 205 bW) λbX=>ad (aH P 205 bX (I J 0)) λbY=>ad (ak P 267 bY 6) λbZ=>ad (ah P a 43 bZ) λb0=>ba a [I J 0,I J 0,I J 0] λB c=>aF c (aC P c 43 B b0) λb=>ad (ak P 43 B 0) λb1=>ad (ah P b 3 b1) λb2=>ad (al P .neq 3 V b2 (I J 3)) λC=>au C U b (aE (ak P 43 B 2)) λb3 f=>au C U f (qr (ah P f 3 b3)) λb4 e=>au C U e (aE (al P .neq 3 V b4 (I J 0))) λb5 n=>ad (aU C (D (Z V)) (D b5)) λb6=>ay (D b6) (D ((Z U),n)) (ad (aL x) λb7=>ad (ak P 199 b7 0) λb8=>ad (ak P 126 b8 0) λb9=>ad (ah P n 22 b9) λb_=>ad (ak P 43 B 1) λca=>ad (ah P n 3 ca) λcb=>ad (aH P 22 b_ cb) λcc=>ad (ak P 158 cc 1) λcd=>ad (ah P n 123 cd) λce=>u_ G N N d r ce (I J 0) n)) (kU G N x d r H))))))
def amD(G:ai)(N:Nat):∀C H,aD P G N (ae (ae (ae (ae (ae (ae (ae (aq (ae (aq (ae (aG Tryz.f264)))))))))))) (λC H=>kU G N (C 0) (C 2) (C 4) H) [(0,(λC H=>kU G N (C 0) (C 2) (C 4) H))] (ax Tryz.f264) C H=u7 G N (C 0) (C 2) (C 4) (C 19) (C 48) H:=by
 refine aI ((bz j (aj _) ((ar j ((bz j (aj _) ((ar j ((bz j (aj _) ((ar j ((bz j (aj _) ((ar j ((bz j (aj _) ((ar j ((bz j ((ar j ((ar j ((ar j ((ar j ((ar j (amE G N) ((ar j ((aX j ((a_ (k:=λm C H=>u_ G N m (C 2) (C 4) (C 16) (C 17) H) j (λC H=>j) (λm=>amA G N (u_ G N m)))))) (aj _))))) (aj _))) (aj _))) (aj _))) (aj _))) (aj _))) (aj _))))) (aj _))))) (aj _))))) (aj _))))) (aj _))))) λC H=> ?_
 delta u7;generalize kU G N=a;generalize u_ G N N=b;revert a b;refine id ?_;intro a b;kernel_rfl
def BI(G:ai)(N:Nat)(h j e:aa)(H:af):O:=aK H (bl (H).next j) λf a=>ad (ak P 267 f 0) λk=>ad (ah P a 3 k) λd=>ad (al P .eql 3 V d (I J 1)) λl=>ay (D l) (ad (ak P 267 f 1) λm=>ad (ah P a 3 m) λn=>ad (aL e) λo=>ad (ak P 267 o 1) λp=>aF a (aC P a 3 p n) λb=>aw b (G 230 [] b) λq c=>ad (aL e) λr=>ad (ak P 267 r 6) λs=>aF c (aC P c 43 s q) λg=>D ((Z V),g)) (ad (al P .eql 3 V d (I J 2)) λt=>ay (D t) (ad (ak P 267 f 1) λu=>ad (ah P a 3 u) λv=>ad (aL e) λw=>ad (ak P 267 w 1) λx=>aF a (aC P a 3 x v) λb=>aw b (G 229 [] b) λy c=>ad (aL e) λz=>ad (ak P 267 z 6) λA=>aF c (aC P c 43 A y) λg=>D ((Z V),g)) (ad (al P .eql 3 V d (I J 11)) λB=>ay (D B) (aw a (G 230 [] a) λC b=>ad (aL e) λE=>ad (ak P 267 E 6) λF=>aF b (aC P b 43 F C) λc=>D ((Z V),c)) (ad (al P .eql 3 V d (I J 3)) λi=>ay (D i) (u7 G N h e f d i a) (ad (al P .eql 3 V d (I J 8)) λK=>u7 G N h e f d K a))))
def amB(G:ai)(N:Nat)(b:aa)(c:aa)(d:aa)(H:af):aB Tryz.f264 G N (aO [b,c,d]) H=BI G N b c d H:=by
 refine aT (A:=aB Tryz.f264 G N) ((ar j ((ar j (amC G N) ((ar j ((aX j ((ar j ((bz j (aj _) ((ar j ((bz j (aj _) ((ar j ((bz j (aj _) ((ar j (amD G N) (aj _))))) (aj _))))) (aj _))))) (aj _))))) (aj _))))) (aj _))) ?_;delta BI;generalize u7 G N=a;revert a;refine id ?_;intro a;kernel_rfl
def l_(G:ai)(N:Nat)(H:af):O:=some ((Z U),H)
def anZ(G:ai)(N:Nat):∀C H,aD P G N (ae (ae (ae (aG Tryz.f299)))) (ax Tryz.f299) [] (ax Tryz.f299) C H=l_ G N H:=by
 refine aI (aj _) λC H=> ?_
 delta l_;kernel_rfl
def nh(G:ai)(N:Nat)(a:aa->aa->aa->aa->af->O)(b c:aa)(e f:aa)(H:af):O:=ad (al P .add 3 V f (I J 1)) λd=>a b c e d H
def an0(G:ai)(N:Nat)(a:aa->aa->aa->aa->af->O):∀C H,aD P G N (ae (ae (aq (aq (ae (aq (ae (ae (aG Tryz.f299))))))))) (λC H=>a (C 0) (C 2) (C 4) (C 7) H) [(0,(λC H=>l_ G N H))] (ax Tryz.f299) C H=nh G N a (C 0) (C 2) (C 4) (C 7) H:=by
 refine aI (aj _) λC H=> ?_
 delta nh;kernel_rfl
def vG(G:ai)(N:Nat)(l:aa->aa->aa->aa->af->O)(b d k:aa)(H:af):O:=ad (aL b) λe=>ad (ak P 267 e 7) λf=>aF H (aC P H 3 f d) λa=>ad (ak P 139 k 3) λg=>ad (ah P a 43 g) λh=>ad (aL b) λi=>ad (ak P 267 i 6) λj=>aF a (aC P a 43 j h) λc=>D ((Z V),c)
def an1(G:ai)(N:Nat)(a:aa->aa->aa->aa->af->O):∀C H,aD P G N (ae (ae (ae (ae (aq (aq (ae (aq (aq (ae (aq (ae (ae (aG Tryz.f299)))))))))))))) (λC H=>nh G N a (C 0) (C 2) (C 4) (C 7) H) [(1,(λC H=>nh G N a (C 0) (C 2) (C 4) (C 7) H)),(0,(λC H=>l_ G N H))] (ax Tryz.f299) C H=vG G N a (C 2) (C 7) (C 8) H:=by
 refine aI (aj _) λC H=> ?_
 delta vG;kernel_rfl
def Hr(G:ai)(N:Nat)(e:aa->aa->aa->aa->af->O)(f:aa->aa->aa->aa->af->O)(a d:aa)(c b:aa)(H:af):O:=ad (aL a) λg=>ad (ak P 267 g 4) λh=>ad (ah P H 205 h) λi=>a1 P .len [205] [i] H λj=>ad (al P .lss 3 U b j) λk=>ay (D k) (ad (aL a) λm=>ad (ak P 267 m 4) λn=>ad (ah P H 205 n) λo=>ad (aH P 205 o b) λp=>ad (ak P 267 p 6) λq=>ad (ah P H 43 q) λr=>ad (ak P 139 c 1) λs=>ad (ah P H 123 s) λt=>ad (aH P 123 t b) λu=>ad (ak P 135 u 1) λv=>ad (ah P H 43 v) λw=>ad (al P .neq 43 U r w) λx=>ay (D x) (D ((Z U),H)) (ad (al P .add 3 V b (I J 1)) λl=>f a d c l H)) (vG G N e a d c H)
def vI(G:ai)(N:Nat)(a:aa->aa->aa->aa->af->O):Nat->aa->aa->aa->aa->af->O
 |0,_,_,_,_,_=>Y
 |n+1,b,c,d,e,H=>Hr G N a (vI G N a n) b c d e H
def anX(G:ai)(N:Nat)(a:aa->aa->aa->aa->af->O)(c:aa->aa->aa->aa->af->O):∀C H,aD P G N (aq (aq (ae (aq (ae (ae (ae (aq (aq (ae (aq (aq (ae (aq (ae (ae (aG Tryz.f299))))))))))))))))) (λC H=>c (C 2) (C 7) (C 8) (C 9) H) [(2,(λC H=>vG G N a (C 2) (C 7) (C 8) H)),(1,(λC H=>nh G N a (C 0) (C 2) (C 4) (C 7) H)),(0,(λC H=>l_ G N H))] (ax Tryz.f299) C H=Hr G N a c (C 2) (C 7) (C 8) (C 9) H:=by
 refine aI (aj _) λC H=> ?_
 delta Hr;generalize vG G N a=b;revert b;refine id ?_;intro b;kernel_rfl
def Hq(G:ai)(N:Nat)(f:aa->aa->aa->aa->af->O)(d e:aa)(h b:aa)(H:af):O:=ad (aL d) λi=>ad (ak P 199 i 0) λj=>ad (ak P 126 j 2) λk=>ad (ah P H 124 k) λl=>a1 P .len [124] [l] H λm=>ad (al P .lss 3 U b m) λn=>ay (D n) (ad (aL d) λo=>ad (ak P 199 o 0) λp=>ad (ak P 126 p 2) λq=>ad (ah P H 124 q) λr=>ad (aH P 124 r b) λs=>ad (ah P H 139 s) λt=>ba H [X [],aa.ao,Z U,I J 0,I J 0,I J 0] λc g=>aF g (aC P g 139 c t) λa=>ad (ak P 139 c 0) λu=>ad (ah P a 9 u) λv=>ad (ak P 267 h 2) λw=>ad (ah P a 9 w) λx=>ad (al P .neq 9 U v x) λy=>ay (D y) (nh G N f d e h b a) (ad (ak P 139 c 1) λz=>ad (ah P a 123 z) λA=>a1 P .len [123] [A] a λB=>ad (aL e) λC=>ad (ak P 267 C 4) λE=>ad (ah P a 205 E) λF=>a1 P .len [205] [F] a λK=>ad (al P .neq 3 U B K) λL=>ay (D L) (D ((Z U),a)) (vI G N f N e b c (I J 0) a))) (l_ G N H)
def vH(G:ai)(N:Nat):Nat->aa->aa->aa->aa->af->O
 |0,_,_,_,_,_=>Y
 |n+1,a,b,c,d,H=>Hq G N (vH G N n) a b c d H
def anW(G:ai)(N:Nat)(a:aa->aa->aa->aa->af->O):∀C H,aD P G N (aq (aq (ae (aq (ae (ae (aG Tryz.f299))))))) (λC H=>a (C 0) (C 2) (C 4) (C 7) H) [(0,(λC H=>l_ G N H))] (ax Tryz.f299) C H=Hq G N a (C 0) (C 2) (C 4) (C 7) H:=by
 refine aI ((ar j ((ar j (an0 G N a) ((aX j ((ar j ((ar j ((ar j ((ar j (an1 G N a) ((ar j ((aX j ((a_ (k:=λm C H=>vI G N a m (C 2) (C 7) (C 8) (C 9) H) j (λC H=>j) (λm=>anX G N a (vI G N a m)))))) (aj _))))) (aj _))) (aj _))) (aj _))))))) (aj _))) λC H=> ?_
 delta Hq;generalize l_ G N=b;generalize vI G N a N=c;generalize nh G N a=d;revert b c d;refine id ?_;intro b c d;kernel_rfl
def Cg(G:ai)(N:Nat)(e f b:aa)(H:af):O:=aK H (bl (H).next f) λc a=>ad (ak P 267 c 2) λg=>ad (ah P a 9 g) λh=>ad (aL b) λi=>ad (ak P 267 i 2) λj=>aF a (aC P a 9 j h) λd=>vH G N N e b c (I J 0) d
def anY(G:ai)(N:Nat)(b:aa)(c:aa)(d:aa)(H:af):aB Tryz.f299 G N (aO [b,c,d]) H=Cg G N b c d H:=by
 refine aT (A:=aB Tryz.f299 G N) ((ar j ((ar j ((ar j (anZ G N) ((ar j ((aX j ((a_ (k:=λm C H=>vH G N m (C 0) (C 2) (C 4) (C 7) H) j (λC H=>j) (λm=>anW G N (vH G N m)))))) (aj _))))) (aj _))) (aj _))) ?_;delta Cg;generalize vH G N N=a;revert a;refine id ?_;intro a;kernel_rfl
