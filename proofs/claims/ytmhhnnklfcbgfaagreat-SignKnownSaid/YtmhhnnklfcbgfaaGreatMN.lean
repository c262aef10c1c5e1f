/-
  Texts of one proof, laid together: ShQ.
-/
import Derived.Test.YtmhhnnklfcbgfaaGreatME
set_option linter.unusedVariables false
set_option linter.unusedSimpArgs false
set_option linter.defProp false
open Option renaming some→D,none→Y
open Bool renaming true→V,false→U
open Go.bN.aa renaming int→I,str→X,bool→Z
open Go.IntKind renaming i64→J
namespace Go.Proofs.YtmhhnnklfcbgfaaGreat
open Go.bN
set_option maxRecDepth 100000
noncomputable section
def mz(G:ai)(N:Nat)(c d f:aa)(H:ae):O:=ad (ah P H 135 f) λg=>aB H (aA P H 135 c g) λb=>aB b (aA P b 65 d (.agg [I J 0,I J 0])) λa=>ad (ah P a 135 c) λr=>ad (ah P a 65 d) λe=>D (.tuple [r,e],a)
def Sr(G:ai)(N:Nat):∀C H,aE P G N (af (af (af (af (af (aG Tryz.f67)))))) (ay Tryz.f67) [] (ay Tryz.f67) C H=mz G N (C 2) (C 3) (C 6) H:=by
 refine aH (aj _) λC H=> ?_
 delta mz;kernel_rfl
def vc(G:ai)(N:Nat)(z:aa->aa->aa->aa->aa->aa->ae->O)(g k:aa)(l e:aa)(m f:aa)(H:ae):O:=ad (ak P 62 g 2) λC=>ad (ah P H 60 C) λE=>aZ P .len [60] [E] H λF=>ad (al P .lss 3 U f F) λK=>ax (D K) (ad (ah P H 62 g) λM=>au H (G 118 [M] H) λQ b=>ad (ah P b 132 e) λn=>ad (ak P 132 e 2) λo=>ad (ah P b 130 o) λp=>ad (aF P 130 p f) λq=>ad (ah P b 143 q) λs=>ad (bh P 184 [(0,n),(1,Q),(2,s)]) λR=>aO b (bo (b).next R) λh i=>bif ((aJ (ah P H 132 e) n&&(aJ (ah P b 132 e) n&&V))&&((aJ (ah P H 130 o) p&&(aJ (ah P b 130 o) p&&V))&&((aJ (ah P H 143 q) s&&(aJ (ah P b 143 q) s&&V))&&V)))then(ad (ak P 132 e 2) λS=>ad (ah P i 130 S) λT=>ad (aF P 130 T f) λW=>ad (ak P 143 W 1) λab=>ad (ah P i 93 ab) λaf=>au i (bJ P i [93,93] aa.ar af) λaj x=>ad (aL h) λam=>ad (ak P 184 am 3) λan=>aB x (aA P x 93 an aj) λj=>ad (ak P 62 g 2) λao=>ad (ah P j 60 ao) λap=>ad (aF P 60 ap f) λaq=>ad (ak P 128 aq 4) λav=>ad (ah P j 126 av) λaw=>au j (G 119 [h,aw] j) λay y=>au y (G 120 [h] y) λaz a=>ad (bt .not az) λaC=>ax (D aC) (aB a (aA P a 135 k (.agg [aa.ar,aa.ar,aa.ar,I J 0,aa.ar])) λc=>ad (aL h) λaD=>ad (ak P 184 aD 4) λt=>ad (ah P c 65 t) λu=>aB c (aA P c 65 l u) λd=>bif ((aJ (ah P a 65 t) u&&(aJ (ah P c 65 t) u&&V))&&V)then(ad (ah P d 135 k) λr=>ad (ah P d 65 l) λB=>D (.tuple [r,B],d))else Y) (ad (ak P 135 m 1) λv=>ad (ah P a 133 v) λw=>ad (aL h) λaE=>ad (ak P 184 aE 3) λaG=>ad (ah P a 93 aG) λaH=>ad (ak P 62 g 2) λaI=>ad (ah P a 60 aI) λaK=>ad (aF P 60 aK f) λaM=>ad (ak P 128 aM 5) λaN=>ad (ah P a 3 aN) λaP=>ad (bh P 141 [(0,aH),(1,ay),(2,aP)]) λaQ=>aO a (bl P (a).next 133 1 [(0,aQ)]) λaR c=>au c (bJ P c [133,133] w aR) λaS d=>ad (ak P 135 m 1) λaT=>aB d (aA P d 133 aT aS) λA=>bif ((aJ (ah P a 133 v) w&&(aJ (ah P c 133 v) w&&V))&&V)then(ad (al P .add 3 V f (I J 1)) λL=>z g k l e m L A)else Y))else Y) (mz G N k l m H)
def mA(G:ai)(N:Nat):Nat->aa->aa->aa->aa->aa->aa->ae->O
 |0,_,_,_,_,_,_,_=>Y
 |n+1,a,b,c,d,e,f,H=>vc G N (mA G N n) a b c d e f H
def Sp(G:ai)(N:Nat)(b:aa->aa->aa->aa->aa->aa->ae->O):∀C H,aE P G N (an (an (af (an (af (af (af (af (aG Tryz.f67))))))))) (λC H=>b (C 1) (C 2) (C 3) (C 4) (C 6) (C 7) H) [(0,(λC H=>mz G N (C 2) (C 3) (C 6) H))] (ay Tryz.f67) C H=vc G N b (C 1) (C 2) (C 3) (C 4) (C 6) (C 7) H:=by
 refine aH (aj _) λC H=> ?_
 delta vc;generalize mz G N=a;revert a;refine id ?_;intro a;kernel_rfl
def qZ(G:ai)(N:Nat)(u:aa)(H:ae):O:=aO H (bo (H).next u) λl o=>a7 o [aa.ar,aa.ar,aa.ar,I J 0,aa.ar] λg p=>a7 p [I J 0,I J 0] λh e=>ad (ah P e 62 l) λv=>au e (G 117 [v] e) λm q=>ad (bG m 0) λw=>ad (bG m 1) λx=>a7 q [aa.ar,aa.ar,aa.ar,I J 0] λi s=>a7 s [I J 0,I J 0] λd j=>aB j (aA P j 132 i w) λk=>aB k (aA P k 65 d x) λb=>ad (ak P 65 d 0) λy=>ad (ah P b 63 y) λz=>ad (al P .neq 63 V z (I J 0)) λA=>ax (D A) (aB b (aA P b 135 g (.agg [aa.ar,aa.ar,aa.ar,I J 0,aa.ar])) λa=>ad (ah P a 65 d) λf=>aB a (aA P a 65 h f) λc=>bif ((aJ (ah P b 65 d) f&&(aJ (ah P a 65 d) f&&V))&&V)then(ad (ah P c 135 g) λr=>ad (ah P c 65 h) λt=>D (.tuple [r,t],c))else Y) (ad (ah P b 132 i) λB=>ad (bh P 135 [(0,B)]) λC=>a7 b [aa.ar,aa.ar,aa.ar,I J 0,aa.ar] λn a=>aB a (aA P a 135 n C) λc=>mA G N N l g h i n (I J 0) c)
def Sq(G:ai)(N:Nat)(b:aa)(H:ae):aD Tryz.f67 G N (aP [b]) H=qZ G N b H:=by
 refine aS (A:=aD Tryz.f67 G N) ((aq j ((aq j ((aq j ((aq j ((aq j (Sr G N) ((aq j ((aT j ((a8 (k:=λm C H=>mA G N m (C 1) (C 2) (C 3) (C 4) (C 6) (C 7) H) j (λC H=>j) (λm=>Sp G N (mA G N m)))))) (aj _))))) (aj _))) (aj _))) (aj _))) (aj _))) ?_;delta qZ;generalize mA G N N=a;revert a;refine id ?_;intro a;kernel_rfl
def fc(G:ai)(N:Nat)(b:aa)(H:ae):O:=aB H (aA P H 65 b (.agg [I J 0,I J 0])) λa=>ad (ah P a 65 b) λr=>D (r,a)
def Sv(G:ai)(N:Nat):∀C H,aE P G N (af (af (af (af (aG Tryz.f68))))) (ay Tryz.f68) [] (ay Tryz.f68) C H=fc G N (C 2) H:=by
 refine aH (aj _) λC H=> ?_
 delta fc;kernel_rfl
def fY(G:ai)(N:Nat)(a:aa->aa->aa->ae->O)(b d e:aa)(H:ae):O:=ad (al P .add 3 V e (I J 1)) λc=>a b d c H
def Sw(G:ai)(N:Nat)(a:aa->aa->aa->ae->O):∀C H,aE P G N (af (af (an (an (af (an (af (af (af (aG Tryz.f68)))))))))) (λC H=>a (C 2) (C 3) (C 5) H) [(0,(λC H=>fc G N (C 2) H))] (ay Tryz.f68) C H=fY G N a (C 2) (C 3) (C 5) H:=by
 refine aH (aj _) λC H=> ?_
 delta fY;kernel_rfl
def mB(G:ai)(N:Nat)(g:aa->aa->aa->ae->O)(b e:aa)(f c:aa)(H:ae):O:=ad (ak P 135 e 1) λh=>ad (ah P H 133 h) λi=>ad (aF P 133 i f) λj=>ad (ak P 141 j 1) λk=>ad (ah P H 126 k) λl=>au H (G 121 [c,l] H) λv a=>ad (aL c) λm=>ad (ak P 188 m 1) λn=>ad (ak P 65 n 0) λo=>ad (ah P a 63 o) λp=>ad (al P .neq 63 V p (I J 0)) λq=>ax (D q) (ad (aL c) λs=>ad (ak P 188 s 1) λt=>ad (ah P a 65 t) λu=>aB a (aA P a 65 b u) λd=>ad (ah P d 65 b) λr=>D (r,d)) (fY G N g b e f a)
def Sx(G:ai)(N:Nat)(a:aa->aa->aa->ae->O):∀C H,aE P G N (af (af (an (an (af (an (an (af (an (af (af (af (aG Tryz.f68))))))))))))) (λC H=>fY G N a (C 2) (C 3) (C 5) H) [(1,(λC H=>fY G N a (C 2) (C 3) (C 5) H)),(0,(λC H=>fc G N (C 2) H))] (ay Tryz.f68) C H=mB G N a (C 2) (C 3) (C 5) (C 6) H:=by
 refine aH (aj _) λC H=> ?_
 delta mB;generalize fY G N a=b;revert b;refine id ?_;intro b;kernel_rfl
def ve(G:ai)(N:Nat)(f:aa->aa->aa->ae->O)(g:aa->aa->aa->aa->aa->ae->O)(e a:aa)(b c d:aa)(H:ae):O:=ad (ak P 135 a 0) λi=>ad (ak P 132 i 2) λj=>ad (ah P H 130 j) λk=>ad (aF P 130 k b) λl=>ad (ak P 143 l 1) λm=>ad (ah P H 93 m) λn=>aZ P .len [93] [n] H λo=>ad (al P .lss 3 U d o) λp=>ax (D p) (ad (aL c) λr=>ad (ak P 188 r 0) λs=>ad (ah P H 104 s) λt=>ad (aF P 104 t d) λu=>aB H (aA P H 4 u (Z V)) λh=>ad (al P .add 3 V d (I J 1)) λq=>g e a b c q h) (mB G N f e a b c H)
def mD(G:ai)(N:Nat)(a:aa->aa->aa->ae->O):Nat->aa->aa->aa->aa->aa->ae->O
 |0,_,_,_,_,_,_=>Y
 |n+1,b,c,d,e,f,H=>ve G N a (mD G N a n) b c d e f H
def St(G:ai)(N:Nat)(a:aa->aa->aa->ae->O)(c:aa->aa->aa->aa->aa->ae->O):∀C H,aE P G N (an (an (af (an (af (an (an (af (an (an (af (an (af (af (af (aG Tryz.f68)))))))))))))))) (λC H=>c (C 2) (C 3) (C 5) (C 6) (C 7) H) [(2,(λC H=>mB G N a (C 2) (C 3) (C 5) (C 6) H)),(1,(λC H=>fY G N a (C 2) (C 3) (C 5) H)),(0,(λC H=>fc G N (C 2) H))] (ay Tryz.f68) C H=ve G N a c (C 2) (C 3) (C 5) (C 6) (C 7) H:=by
 refine aH (aj _) λC H=> ?_
 delta ve;generalize mB G N a=b;revert b;refine id ?_;intro b;kernel_rfl
def vd(G:ai)(N:Nat)(f:aa->aa->aa->ae->O)(d a b:aa)(H:ae):O:=ad (ak P 135 a 1) λh=>ad (ah P H 133 h) λi=>aZ P .len [133] [i] H λj=>ad (al P .lss 3 U b j) λk=>ax (D k) (ad (ak P 135 a 1) λl=>ad (ah P H 133 l) λm=>ad (aF P 133 m b) λn=>ad (ak P 141 n 0) λo=>ad (ah P H 93 o) λp=>aZ P .len [93] [p] H λe=>aO H (cz (cO P ⟨.leaf,(H).next⟩ 104 e e) (H).next) λq c=>ad (bh P 188 [(0,q)]) λr=>aO c (bo (c).next r) λs g=>mD G N f N d a b s (I J 0) g) (fc G N d H)
def mC(G:ai)(N:Nat):Nat->aa->aa->aa->ae->O
 |0,_,_,_,_=>Y
 |n+1,a,b,c,H=>vd G N (mC G N n) a b c H
def Ss(G:ai)(N:Nat)(a:aa->aa->aa->ae->O):∀C H,aE P G N (an (an (af (an (af (af (af (aG Tryz.f68)))))))) (λC H=>a (C 2) (C 3) (C 5) H) [(0,(λC H=>fc G N (C 2) H))] (ay Tryz.f68) C H=vd G N a (C 2) (C 3) (C 5) H:=by
 refine aH ((aq j ((aq j (Sw G N a) ((aT j ((aq j ((aq j (Sx G N a) ((aq j ((aT j ((a8 (k:=λm C H=>mD G N a m (C 2) (C 3) (C 5) (C 6) (C 7) H) j (λC H=>j) (λm=>St G N a (mD G N a m)))))) (aj _))))) (aj _))))))) (aj _))) λC H=> ?_
 delta vd;generalize fc G N=b;generalize mD G N a N=c;revert b c;refine id ?_;intro b c;kernel_rfl
def q0(G:ai)(N:Nat)(m:aa)(H:ae):O:=aO H (bo (H).next m) λn j=>a7 j [I J 0,I J 0] λc b=>ad (ah P b 62 n) λv=>au b (G 67 [v] b) λh k=>ad (bG h 0) λo=>ad (bG h 1) λp=>a7 k [aa.ar,aa.ar,aa.ar,I J 0,aa.ar] λi l=>a7 l [I J 0,I J 0] λd e=>aB e (aA P e 135 i o) λf=>aB f (aA P f 65 d p) λa=>ad (ak P 65 d 0) λq=>ad (ah P a 63 q) λs=>ad (al P .neq 63 V s (I J 0)) λt=>ax (D t) (ad (ah P a 65 d) λu=>aB a (aA P a 65 c u) λg=>ad (ah P g 65 c) λr=>D (r,g)) (mC G N N c i (I J 0) a)
def Su(G:ai)(N:Nat)(b:aa)(H:ae):aD Tryz.f68 G N (aP [b]) H=q0 G N b H:=by
 refine aS (A:=aD Tryz.f68 G N) ((aq j ((aq j ((aq j ((aq j (Sv G N) ((aq j ((aT j ((a8 (k:=λm C H=>mC G N m (C 2) (C 3) (C 5) H) j (λC H=>j) (λm=>Ss G N (mC G N m)))))) (aj _))))) (aj _))) (aj _))) (aj _))) ?_;delta q0;generalize mC G N N=a;revert a;refine id ?_;intro a;kernel_rfl
def dY(G:ai)(N:Nat)(c d g:aa)(H:ae):O:=ad (ak P 132 g 3) λh=>ad (ah P H 3 h) λi=>ad (al P .lss 3 V i (I J 0)) λj=>ax (D j) (au H (G 159 [I J 0] H) λk b=>aB b (aA P b 132 c (.agg [aa.ar,aa.ar,aa.ar,I J 0])) λa=>aB a (aA P a 65 d k) λe=>ad (ah P e 132 c) λr=>ad (ah P e 65 d) λf=>D (.tuple [r,f],e)) (ad (ah P H 132 g) λl=>aB H (aA P H 132 c l) λb=>aB b (aA P b 65 d (.agg [I J 0,I J 0])) λa=>ad (ah P a 132 c) λr=>ad (ah P a 65 d) λf=>D (.tuple [r,f],a))
def KF(G:ai)(N:Nat):∀C H,aE P G N (af (af (af (af (af (af (af (af (af (aG Tryz.f117)))))))))) (ay Tryz.f117) [] (ay Tryz.f117) C H=dY G N (C 2) (C 3) (C 7) H:=by
 refine aH (aj _) λC H=> ?_
 delta dY;kernel_rfl
def dQ(G:ai)(N:Nat)(a:aa->aa->aa->aa->aa->aa->ae->O)(b e:aa)(f g:aa)(h d:aa)(H:ae):O:=ad (al P .add 3 V d (I J 1)) λc=>a b e f g h c H
def KG(G:ai)(N:Nat)(a:aa->aa->aa->aa->aa->aa->ae->O):∀C H,aE P G N (af (af (an (an (af (an (af (af (af (af (af (af (af (af (aG Tryz.f117))))))))))))))) (λC H=>a (C 1) (C 2) (C 3) (C 4) (C 7) (C 13) H) [(6,(λC H=>dY G N (C 2) (C 3) (C 7) H))] (ay Tryz.f117) C H=dQ G N a (C 1) (C 2) (C 3) (C 4) (C 7) (C 13) H:=by
 refine aH (aj _) λC H=> ?_
 delta dQ;kernel_rfl
def ih(G:ai)(N:Nat)(d:aa->aa->aa->aa->aa->aa->ae->O)(f o:aa)(p q:aa)(a g h:aa)(H:ae):O:=ad (ak P 132 a 2) λi=>ad (ah P H 130 i) λj=>ad (ah P H 143 h) λk=>aO H (bl P (H).next 130 1 [(0,k)]) λl b=>au b (bJ P b [130,130] j l) λm c=>ad (ak P 132 a 2) λn=>aB c (aA P c 130 n m) λe=>dQ G N d f o p q a g e
def KJ(G:ai)(N:Nat)(a:aa->aa->aa->aa->aa->aa->ae->O):∀C H,aE P G N (af (af (af (af (af (af (af (an (an (af (an (an (af (an (af (af (af (af (af (af (af (af (aG Tryz.f117))))))))))))))))))))))) (λC H=>dQ G N a (C 1) (C 2) (C 3) (C 4) (C 7) (C 13) H) [(7,(λC H=>dQ G N a (C 1) (C 2) (C 3) (C 4) (C 7) (C 13) H)),(6,(λC H=>dY G N (C 2) (C 3) (C 7) H))] (ay Tryz.f117) C H=ih G N a (C 1) (C 2) (C 3) (C 4) (C 7) (C 13) (C 18) H:=by
 refine aH (aj _) λC H=> ?_
 delta ih;generalize dQ G N a=b;revert b;refine id ?_;intro b;kernel_rfl
def ig(G:ai)(N:Nat)(f:aa->aa->aa->aa->aa->aa->ae->O)(i m:aa)(n o:aa)(e d:aa)(j u l:aa)(H:ae):O:=ad (ak P 128 j 0) λv=>ad (ah P H 9 v) λw=>ad (al P .eql 9 V w (X [109,97,105,110])) λa=>ao a V H (aM u) λk g=>ao a V g (λq=>bH (aW P .empty .len [93] [k]) (aW P g .len [93] [k]) q) λx p=>ao a V p (az (al P .eql 3 V x (I J 0))) λy r=>ad (aN a (D y) (D (Z U))) λb=>ao b V r (az (ak P 128 j 2)) λz h=>ao b V h (qr (ah P h 4 z)) λA s=>ao b V s (az (bt .not A)) λB c=>ad (aN b (D B) (D (Z U))) λC=>ax (D C) (ad (ak P 132 e 3) λE=>aB c (aA P c 3 E d) λt=>ih G N f i m n o e d l t) (ih G N f i m n o e d l c)
def KI(G:ai)(N:Nat)(a:aa->aa->aa->aa->aa->aa->ae->O):∀C H,aE P G N (af (af (af (af (af (af (an (an (af (an (an (af (an (af (af (af (af (af (af (af (af (aG Tryz.f117)))))))))))))))))))))) (λC H=>dQ G N a (C 1) (C 2) (C 3) (C 4) (C 7) (C 13) H) [(7,(λC H=>dQ G N a (C 1) (C 2) (C 3) (C 4) (C 7) (C 13) H)),(6,(λC H=>dY G N (C 2) (C 3) (C 7) H))] (ay Tryz.f117) C H=ig G N a (C 1) (C 2) (C 3) (C 4) (C 7) (C 13) (C 14) (C 16) (C 18) H:=by
 refine aH ((aq j (KJ G N a) (aj _))) λC H=> ?_
 delta ig;generalize ih G N a=b;revert b;refine id ?_;intro b;kernel_rfl
def ie(G:ai)(N:Nat)(p:aa->aa->aa->aa->aa->aa->ae->O)(u f:aa)(g k:aa)(z v b:aa)(H:ae):O:=ad (ak P 128 b 1) λC=>ad (ah P H 59 C) λE=>au H (G 160 [k,E] H) λw A=>ad (bG w 0) λn=>ad (bG w 1) λF=>a7 A [I J 0,I J 0] λh s=>aB s (aA P s 65 h F) λc=>ad (ak P 65 h 0) λK=>ad (ah P c 63 K) λL=>ad (al P .neq 63 V L (I J 0)) λM=>ax (D M) (aB c (aA P c 132 f (.agg [aa.ar,aa.ar,aa.ar,I J 0])) λd=>ad (ah P d 65 h) λo=>aB d (aA P d 65 g o) λa=>bif ((aJ (ah P c 65 h) o&&(aJ (ah P d 65 h) o&&V))&&V)then(ad (ah P a 132 f) λr=>ad (ah P a 65 g) λm=>D (.tuple [r,m],a))else Y) (ad (ak P 128 b 0) λQ=>ad (ah P c 9 Q) λR=>ad (ak P 128 b 2) λS=>ad (ah P c 4 S) λT=>ad (bh P 143 [(0,R),(1,n),(2,T)]) λW=>a7 c [X [],aa.ar,Z U,I J 0,I J 0,I J 0] λj d=>aB d (aA P d 143 j W) λa=>ad (ak P 128 b 2) λab=>ad (ah P a 4 ab) λaf=>ax (D af) (ad (ak P 128 b 3) λaj=>ad (ah P a 121 aj) λam=>au a (G 161 [k,am] a) λx B=>ad (bG x 0) λan=>ad (bG x 1) λao=>a7 B [I J 0,I J 0,I J 0] λy t=>aB t (aA P t 46 y an) λe=>ad (bt .not ao) λap=>ax (D ap) (ad (ak P 128 b 5) λaq=>ad (ah P e 3 aq) λav=>au e (G 159 [av] e) λaw i=>aB i (aA P i 132 f (.agg [aa.ar,aa.ar,aa.ar,I J 0])) λq=>aB q (aA P q 65 g aw) λl=>ad (ah P l 132 f) λr=>ad (ah P l 65 g) λm=>D (.tuple [r,m],l)) (ad (ah P e 46 y) λay=>ad (ak P 143 j 3) λaz=>aB e (aA P e 46 az ay) λi=>ig G N p u f g k z v b n j i)) (ig G N p u f g k z v b n j a))
def KH(G:ai)(N:Nat)(a:aa->aa->aa->aa->aa->aa->ae->O):∀C H,aE P G N (af (af (an (an (af (an (an (af (an (af (af (af (af (af (af (af (af (aG Tryz.f117)))))))))))))))))) (λC H=>dQ G N a (C 1) (C 2) (C 3) (C 4) (C 7) (C 13) H) [(7,(λC H=>dQ G N a (C 1) (C 2) (C 3) (C 4) (C 7) (C 13) H)),(6,(λC H=>dY G N (C 2) (C 3) (C 7) H))] (ay Tryz.f117) C H=ie G N a (C 1) (C 2) (C 3) (C 4) (C 7) (C 13) (C 14) H:=by
 refine aH ((aq j ((aq j ((aq j ((aq j (KI G N a) (aj _))) (aj _))) (aj _))) (aj _))) λC H=> ?_
 delta ie;generalize ig G N a=b;revert b;refine id ?_;intro b;kernel_rfl
def s7(G:ai)(N:Nat)(l:aa->aa->aa->aa->aa->aa->ae->O)(m:aa->aa->aa->aa->aa->aa->aa->aa->ae->O)(e b:aa)(c j:aa)(k f:aa)(a g:aa)(H:ae):O:=ad (al P .lss 3 U g f) λo=>ax (D o) (ad (ak P 62 e 2) λq=>ad (ah P H 60 q) λs=>ad (aF P 60 s g) λt=>ad (ak P 128 t 0) λu=>ad (ah P H 9 u) λv=>ad (ak P 128 a 0) λw=>ad (ah P H 9 w) λx=>ad (al P .eql 9 U v x) λy=>ax (D y) (ad (ak P 128 a 5) λz=>ad (ah P H 3 z) λA=>au H (G 159 [A] H) λB h=>aB h (aA P h 132 b (.agg [aa.ar,aa.ar,aa.ar,I J 0])) λi=>aB i (aA P i 65 c B) λd=>ad (ah P d 132 b) λr=>ad (ah P d 65 c) λn=>D (.tuple [r,n],d)) (ad (al P .add 3 V g (I J 1)) λp=>m e b c j k f a p H)) (ie G N l e b c j k f a H)
def iq(G:ai)(N:Nat)(a:aa->aa->aa->aa->aa->aa->ae->O):Nat->aa->aa->aa->aa->aa->aa->aa->aa->ae->O
 |0,_,_,_,_,_,_,_,_,_=>Y
 |n+1,b,f,g,h,i,c,d,e,H=>s7 G N a (iq G N a n) b f g h i c d e H
def Kz(G:ai)(N:Nat)(a:aa->aa->aa->aa->aa->aa->ae->O)(c:aa->aa->aa->aa->aa->aa->aa->aa->ae->O):∀C H,aE P G N (an (an (af (an (af (an (an (af (an (an (af (an (af (af (af (af (af (af (af (af (aG Tryz.f117))))))))))))))))))))) (λC H=>c (C 1) (C 2) (C 3) (C 4) (C 7) (C 13) (C 14) (C 15) H) [(8,(λC H=>ie G N a (C 1) (C 2) (C 3) (C 4) (C 7) (C 13) (C 14) H)),(7,(λC H=>dQ G N a (C 1) (C 2) (C 3) (C 4) (C 7) (C 13) H)),(6,(λC H=>dY G N (C 2) (C 3) (C 7) H))] (ay Tryz.f117) C H=s7 G N a c (C 1) (C 2) (C 3) (C 4) (C 7) (C 13) (C 14) (C 15) H:=by
 refine aH (aj _) λC H=> ?_
 delta s7;generalize ie G N a=b;revert b;refine id ?_;intro b;kernel_rfl
def s6(G:ai)(N:Nat)(h:aa->aa->aa->aa->aa->aa->ae->O)(a e:aa)(f r:aa)(g b:aa)(H:ae):O:=ad (ak P 62 a 2) λj=>ad (ah P H 60 j) λk=>aZ P .len [60] [k] H λl=>ad (al P .lss 3 U b l) λm=>ax (D m) (ad (ak P 62 a 2) λn=>ad (ah P H 60 n) λo=>ad (aF P 60 o b) λp=>ad (ah P H 128 p) λq=>a7 H [X [],aa.ar,Z U,X [],I J 0,aa.ar,I J 0] λd c=>aB c (aA P c 128 d q) λi=>iq G N h N a e f r g b d (I J 0) i) (dY G N e f g H)
def im(G:ai)(N:Nat):Nat->aa->aa->aa->aa->aa->aa->ae->O
 |0,_,_,_,_,_,_,_=>Y
 |n+1,a,c,d,e,f,b,H=>s6 G N (im G N n) a c d e f b H
def Ky(G:ai)(N:Nat)(a:aa->aa->aa->aa->aa->aa->ae->O):∀C H,aE P G N (an (an (af (an (af (af (af (af (af (af (af (af (aG Tryz.f117))))))))))))) (λC H=>a (C 1) (C 2) (C 3) (C 4) (C 7) (C 13) H) [(6,(λC H=>dY G N (C 2) (C 3) (C 7) H))] (ay Tryz.f117) C H=s6 G N a (C 1) (C 2) (C 3) (C 4) (C 7) (C 13) H:=by
 refine aH ((aq j ((aq j (KG G N a) ((aT j ((aq j ((aq j (KH G N a) ((aq j ((aT j ((a8 (k:=λm C H=>iq G N a m (C 1) (C 2) (C 3) (C 4) (C 7) (C 13) (C 14) (C 15) H) j (λC H=>j) (λm=>Kz G N a (iq G N a m)))))) (aj _))))) (aj _))))))) (aj _))) λC H=> ?_
 delta s6;generalize dY G N=b;generalize iq G N a N=c;revert b c;refine id ?_;intro b c;kernel_rfl
def ic(G:ai)(N:Nat)(i e:aa)(f j k:aa)(H:ae):O:=ad (ak P 62 i 1) λo=>ad (ah P H 59 o) λp=>au H (G 160 [j,p] H) λl m=>ad (bG l 0) λq=>ad (bG l 1) λs=>a7 m [I J 0,I J 0] λc h=>aB h (aA P h 65 c s) λa=>ad (ak P 65 c 0) λt=>ad (ah P a 63 t) λu=>ad (al P .neq 63 V u (I J 0)) λv=>ax (D v) (aB a (aA P a 132 e (.agg [aa.ar,aa.ar,aa.ar,I J 0])) λb=>ad (ah P b 65 c) λg=>aB b (aA P b 65 f g) λd=>bif ((aJ (ah P a 65 c) g&&(aJ (ah P b 65 c) g&&V))&&V)then(ad (ah P d 132 e) λr=>ad (ah P d 65 f) λn=>D (.tuple [r,n],d))else Y) (ad (ak P 132 k 1) λw=>aB a (aA P a 93 w q) λb=>im G N N i e f j k (I J 0) b)
def KE(G:ai)(N:Nat):∀C H,aE P G N (af (af (af (af (af (aG Tryz.f117)))))) (ay Tryz.f117) [] (ay Tryz.f117) C H=ic G N (C 1) (C 2) (C 3) (C 4) (C 7) H:=by
 refine aH ((aq j ((aq j ((aq j ((aq j (KF G N) ((aq j ((aT j ((a8 (k:=λm C H=>im G N m (C 1) (C 2) (C 3) (C 4) (C 7) (C 13) H) j (λC H=>j) (λm=>Ky G N (im G N m)))))) (aj _))))) (aj _))) (aj _))) (aj _))) λC H=> ?_
 delta ic;generalize im G N N=a;revert a;refine id ?_;intro a;kernel_rfl
def s8(G:ai)(N:Nat)(p:aa->aa->aa->aa->aa->aa->ae->O)(e f:aa)(g h:aa)(i j:aa)(H:ae):O:=ad (ak P 62 e 0) λu=>ad (ah P H 58 u) λv=>aZ P .len [58] [v] H λw=>ad (al P .lss 3 U j w) λx=>ax (D x) (ad (ak P 62 e 0) λz=>ad (ah P H 58 z) λA=>ad (aF P 58 A j) λB=>ad (ak P 118 B 1) λC=>ad (ah P H 59 C) λE=>au H (G 160 [h,E] H) λo q=>ad (bG o 0) λF=>ad (bG o 1) λK=>a7 q [I J 0,I J 0] λd n=>aB n (aA P n 65 d K) λa=>ad (ak P 65 d 0) λL=>ad (ah P a 63 L) λM=>ad (al P .neq 63 V M (I J 0)) λQ=>ax (D Q) (aB a (aA P a 132 f (.agg [aa.ar,aa.ar,aa.ar,I J 0])) λb=>ad (ah P b 65 d) λk=>aB b (aA P b 65 g k) λc=>bif ((aJ (ah P a 65 d) k&&(aJ (ah P b 65 d) k&&V))&&V)then(ad (ah P c 132 f) λr=>ad (ah P c 65 g) λt=>D (.tuple [r,t],c))else Y) (ad (ak P 132 i 0) λl=>ad (ah P a 22 l) λm=>ad (aF P 57 h j) λR=>ad (ah P a 9 R) λS=>ad (bh P 95 [(0,S),(1,F)]) λT=>aO a (bl P (a).next 22 1 [(0,T)]) λW b=>au b (bJ P b [22,22] m W) λab c=>ad (ak P 132 i 0) λaf=>aB c (aA P c 22 af ab) λs=>bif ((aJ (ah P a 22 l) m&&(aJ (ah P b 22 l) m&&V))&&V)then(ad (al P .add 3 V j (I J 1)) λy=>p e f g h i y s)else Y)) (ic G N e f g h i H)
def ir(G:ai)(N:Nat):Nat->aa->aa->aa->aa->aa->aa->ae->O
 |0,_,_,_,_,_,_,_=>Y
 |n+1,a,b,c,d,e,f,H=>s8 G N (ir G N n) a b c d e f H
def KA(G:ai)(N:Nat)(b:aa->aa->aa->aa->aa->aa->ae->O):∀C H,aE P G N (an (an (af (an (af (af (af (af (aG Tryz.f117))))))))) (λC H=>b (C 1) (C 2) (C 3) (C 4) (C 7) (C 8) H) [(4,(λC H=>ic G N (C 1) (C 2) (C 3) (C 4) (C 7) H))] (ay Tryz.f117) C H=s8 G N b (C 1) (C 2) (C 3) (C 4) (C 7) (C 8) H:=by
 refine aH (aj _) λC H=> ?_
 delta s8;generalize ic G N=a;revert a;refine id ?_;intro a;kernel_rfl
def fJ(G:ai)(N:Nat)(d e:aa)(f g:aa)(H:ae):O:=a7 H [aa.ar,aa.ar,aa.ar,I J 0] λb a=>aB a (aA P a 132 b (.agg [aa.ar,aa.ar,aa.ar,(I J (-1))])) λc=>ir G N N d e f g b (I J 0) c
def KC(G:ai)(N:Nat):∀C H,aE P G N (af (af (af (aG Tryz.f117)))) (ay Tryz.f117) [] (ay Tryz.f117) C H=fJ G N (C 1) (C 2) (C 3) (C 4) H:=by
 refine aH ((aq j ((aq j (KE G N) ((aq j ((aT j ((a8 (k:=λm C H=>ir G N m (C 1) (C 2) (C 3) (C 4) (C 7) (C 8) H) j (λC H=>j) (λm=>KA G N (ir G N m)))))) (aj _))))) (aj _))) λC H=> ?_
 delta fJ;generalize ir G N N=a;revert a;refine id ?_;intro a;kernel_rfl
def gQ(G:ai)(N:Nat)(a:aa->aa->aa->aa->aa->ae->O)(b c:aa)(e f g:aa)(H:ae):O:=ad (al P .add 3 V g (I J 1)) λd=>a b c e f d H
def KD(G:ai)(N:Nat)(a:aa->aa->aa->aa->aa->ae->O):∀C H,aE P G N (af (af (an (an (af (an (af (af (aG Tryz.f117))))))))) (λC H=>a (C 1) (C 2) (C 3) (C 4) (C 5) H) [(0,(λC H=>fJ G N (C 1) (C 2) (C 3) (C 4) H))] (ay Tryz.f117) C H=gQ G N a (C 1) (C 2) (C 3) (C 4) (C 5) H:=by
 refine aH (aj _) λC H=> ?_
 delta gQ;kernel_rfl
def s5(G:ai)(N:Nat)(j:aa->aa->aa->aa->aa->ae->O)(k:aa->aa->aa->aa->aa->aa->ae->O)(f b:aa)(c d:aa)(a g:aa)(H:ae):O:=ad (al P .lss 3 U g a) λm=>ax (D m) (ad (aF P 57 d g) λo=>ad (ah P H 9 o) λp=>ad (aF P 57 d a) λq=>ad (ah P H 9 q) λs=>ad (al P .eql 9 U p s) λt=>ax (D t) (ad (ak P 62 f 0) λu=>ad (ah P H 58 u) λv=>ad (aF P 58 v a) λw=>ad (ak P 118 w 2) λx=>ad (ah P H 3 x) λy=>au H (G 159 [y] H) λz h=>aB h (aA P h 132 b (.agg [aa.ar,aa.ar,aa.ar,I J 0])) λi=>aB i (aA P i 65 c z) λe=>ad (ah P e 132 b) λr=>ad (ah P e 65 c) λl=>D (.tuple [r,l],e)) (ad (al P .add 3 V g (I J 1)) λn=>k f b c d a n H)) (gQ G N j f b c d a H)
def il(G:ai)(N:Nat)(a:aa->aa->aa->aa->aa->ae->O):Nat->aa->aa->aa->aa->aa->aa->ae->O
 |0,_,_,_,_,_,_,_=>Y
 |n+1,b,c,d,e,f,g,H=>s5 G N a (il G N a n) b c d e f g H
def Kx(G:ai)(N:Nat)(a:aa->aa->aa->aa->aa->ae->O)(c:aa->aa->aa->aa->aa->aa->ae->O):∀C H,aE P G N (an (an (af (an (an (af (an (an (af (an (af (af (aG Tryz.f117))))))))))))) (λC H=>c (C 1) (C 2) (C 3) (C 4) (C 5) (C 6) H) [(2,(λC H=>gQ G N a (C 1) (C 2) (C 3) (C 4) (C 5) H)),(1,(λC H=>gQ G N a (C 1) (C 2) (C 3) (C 4) (C 5) H)),(0,(λC H=>fJ G N (C 1) (C 2) (C 3) (C 4) H))] (ay Tryz.f117) C H=s5 G N a c (C 1) (C 2) (C 3) (C 4) (C 5) (C 6) H:=by
 refine aH (aj _) λC H=> ?_
 delta s5;generalize gQ G N a=b;revert b;refine id ?_;intro b;kernel_rfl
def s4(G:ai)(N:Nat)(f:aa->aa->aa->aa->aa->ae->O)(b c:aa)(d a e:aa)(H:ae):O:=aZ P .len [57] [a] H λg=>ad (al P .lss 3 U e g) λh=>ax (D h) (il G N f N b c d a e (I J 0) H) (fJ G N b c d a H)
def ik(G:ai)(N:Nat):Nat->aa->aa->aa->aa->aa->ae->O
 |0,_,_,_,_,_,_=>Y
 |n+1,a,b,c,d,e,H=>s4 G N (ik G N n) a b c d e H
def Kw(G:ai)(N:Nat)(a:aa->aa->aa->aa->aa->ae->O):∀C H,aE P G N (an (an (af (an (af (af (aG Tryz.f117))))))) (λC H=>a (C 1) (C 2) (C 3) (C 4) (C 5) H) [(0,(λC H=>fJ G N (C 1) (C 2) (C 3) (C 4) H))] (ay Tryz.f117) C H=s4 G N a (C 1) (C 2) (C 3) (C 4) (C 5) H:=by
 refine aH ((aq j ((aq j (KD G N a) ((aT j ((aq j ((aT j ((a8 (k:=λm C H=>il G N a m (C 1) (C 2) (C 3) (C 4) (C 5) (C 6) H) j (λC H=>j) (λm=>Kx G N a (il G N a m)))))) (aj _))))))) (aj _))) λC H=> ?_
 delta s4;generalize fJ G N=b;generalize il G N a N=c;revert b c;refine id ?_;intro b c;kernel_rfl
def n1(G:ai)(N:Nat)(f:aa)(H:ae):O:=aO H (bo (H).next f) λb c=>a7 c [aa.ar,aa.ar,aa.ar,I J 0] λg d=>a7 d [I J 0,I J 0] λj a=>ad (ah P a 62 b) λh=>au a (G 118 [h] a) λi e=>ik G N N b g j i (I J 0) e
def KB(G:ai)(N:Nat)(b:aa)(H:ae):aD Tryz.f117 G N (aP [b]) H=n1 G N b H:=by
 refine aS (A:=aD Tryz.f117 G N) ((aq j ((aq j ((aq j (KC G N) ((aq j ((aT j ((a8 (k:=λm C H=>ik G N m (C 1) (C 2) (C 3) (C 4) (C 5) H) j (λC H=>j) (λm=>Kw G N (ik G N m)))))) (aj _))))) (aj _))) (aj _))) ?_;delta n1;generalize ik G N N=a;revert a;refine id ?_;intro a;kernel_rfl
def iu(G:ai)(N:Nat)(a:aa)(H:ae):O:=some (a,H)
def KN(G:ai)(N:Nat):∀C H,aE P G N (af (af (af (aG Tryz.f118)))) (ay Tryz.f118) [] (ay Tryz.f118) C H=iu G N (C 3) H:=by
 refine aH (aj _) λC H=> ?_
 delta iu;kernel_rfl
def s9(G:ai)(N:Nat)(e:aa->aa->aa->ae->O)(a d b:aa)(H:ae):O:=ad (ak P 62 a 0) λo=>ad (ah P H 58 o) λp=>aZ P .len [58] [p] H λq=>ad (al P .lss 3 U b q) λr=>ax (D r) (ad (ak P 62 a 0) λh=>ad (ah P H 58 h) λi=>ad (aF P 58 i b) λj=>ad (ak P 118 j 0) λk=>ad (ah P H 9 k) λl=>aO H (bl P (H).next 57 1 [(0,l)]) λm c=>au c (bJ P c [57,57] d m) λn f=>ad (al P .add 3 V b (I J 1)) λg=>e a n g f) (iu G N d H)
def iv(G:ai)(N:Nat):Nat->aa->aa->aa->ae->O
 |0,_,_,_,_=>Y
 |n+1,a,b,c,H=>s9 G N (iv G N n) a b c H
def KK(G:ai)(N:Nat)(b:aa->aa->aa->ae->O):∀C H,aE P G N (an (an (af (an (af (af (aG Tryz.f118))))))) (λC H=>b (C 1) (C 3) (C 4) H) [(0,(λC H=>iu G N (C 3) H))] (ay Tryz.f118) C H=s9 G N b (C 1) (C 3) (C 4) H:=by
 refine aH (aj _) λC H=> ?_
 delta s9;generalize iu G N=a;revert a;refine id ?_;intro a;kernel_rfl
def n2(G:ai)(N:Nat)(b:aa)(H:ae):O:=aO H (bo (H).next b) λc a=>iv G N N c aa.ar (I J 0) a
def KM(G:ai)(N:Nat)(b:aa)(H:ae):aD Tryz.f118 G N (aP [b]) H=n2 G N b H:=by
 refine aS (A:=aD Tryz.f118 G N) ((aq j ((aq j ((aq j (KN G N) ((aq j ((aT j ((a8 (k:=λm C H=>iv G N m (C 1) (C 3) (C 4) H) j (λC H=>j) (λm=>KK G N (iv G N m)))))) (aj _))))) (aj _))) (aj _))) ?_;delta n2;generalize iv G N N=a;revert a;refine id ?_;intro a;kernel_rfl
def iw(G:ai)(N:Nat)(a:aa)(H:ae):O:=some (a,H)
def KQ(G:ai)(N:Nat):∀C H,aE P G N (af (af (af (aG Tryz.f119)))) (ay Tryz.f119) [] (ay Tryz.f119) C H=iw G N (C 5) H:=by
 refine aH (aj _) λC H=> ?_
 delta iw;kernel_rfl
def s_(G:ai)(N:Nat)(j:aa->aa->aa->aa->ae->O)(c d:aa)(i f:aa)(H:ae):O:=aZ P .len [126] [d] H λv=>ad (al P .lss 3 U f v) λe=>ao e V H (aM c) λl b=>ao e V b (λq=>bg b (G 120 [l] b) q) λm a=>ad (aN e (D m) (D (Z U))) λn=>ax (D n) (ad (aF P 126 d f) λp=>ad (ah P a 192 p) λr=>au a (G 162 [c,r] a) λs g=>aO g (bl P (g).next 126 1 [(0,s)]) λt h=>au h (bJ P h [126,126] i t) λu k=>ad (al P .add 3 V f (I J 1)) λo=>j c d u o k) (iw G N i a)
def ix(G:ai)(N:Nat):Nat->aa->aa->aa->aa->ae->O
 |0,_,_,_,_,_=>Y
 |n+1,a,b,c,d,H=>s_ G N (ix G N n) a b c d H
def KO(G:ai)(N:Nat)(b:aa->aa->aa->aa->ae->O):∀C H,aE P G N (an (an (af (an (af (af (aG Tryz.f119))))))) (λC H=>b (C 0) (C 1) (C 5) (C 6) H) [(0,(λC H=>iw G N (C 5) H))] (ay Tryz.f119) C H=s_ G N b (C 0) (C 1) (C 5) (C 6) H:=by
 refine aH (aj _) λC H=> ?_
 delta s_;generalize iw G N=a;revert a;refine id ?_;intro a;kernel_rfl
def n3(G:ai)(N:Nat)(a b:aa)(H:ae):O:=ix G N N a b aa.ar (I J 0) H
def KP(G:ai)(N:Nat)(b:aa)(c:aa)(H:ae):aD Tryz.f119 G N (aP [b,c]) H=n3 G N b c H:=by
 refine aS (A:=aD Tryz.f119 G N) ((aq j ((aq j ((aq j (KQ G N) ((aq j ((aT j ((a8 (k:=λm C H=>ix G N m (C 0) (C 1) (C 5) (C 6) H) j (λC H=>j) (λm=>KO G N (ix G N m)))))) (aj _))))) (aj _))) (aj _))) ?_;delta n3;generalize ix G N N=a;revert a;refine id ?_;intro a;kernel_rfl
def n4(G:ai)(a:aa)(H:ae):O:=ad (aL a) λb=>ad (ak P 184 b 4) λc=>ad (ak P 65 c 0) λd=>ad (ah P H 63 d) λe=>ad (al P .eql 63 V e (I J 0)) λf=>D (f,H)
def KS(G:ai)(N:Nat)(a:aa)(H:ae):aD Tryz.f120 G N (aP [a]) H=n4 G a H:=by
 refine aS (A:=aD Tryz.f120 G N) (aj _) ?_;delta n4;kernel_rfl
def cK(G:ai)(N:Nat)(a:aa->aa->aa->ae->O)(b c e:aa)(H:ae):O:=ad (al P .add 3 V e (I J 1)) λd=>a b c d H
def KX(G:ai)(N:Nat)(a:aa->aa->aa->ae->O):∀C H,aE P G N (af (af (an (an (af (aG Tryz.f121)))))) (λC H=>a (C 0) (C 1) (C 4) H) [(0,(ay Tryz.f121))] (ay Tryz.f121) C H=cK G N a (C 0) (C 1) (C 4) H:=by
 refine aH (aj _) λC H=> ?_
 delta cK;kernel_rfl
def td(G:ai)(N:Nat)(u:aa->aa->aa->ae->O)(v:aa->aa->aa->aa->aa->ae->O)(a l:aa)(s t b:aa)(H:ae):O:=ad (aL a) λw=>ad (ak P 188 w 0) λx=>ad (ah P H 104 x) λz=>aZ P .len [104] [z] H λA=>ad (al P .lss 3 U b A) λB=>ax (D B) (ad (aL a) λm=>ad (ak P 188 m 0) λh=>ad (ah P H 104 h) λn=>ad (aL a) λo=>ad (ak P 188 o 0) λi=>ad (ah P H 104 i) λp=>ad (aF P 104 p b) λj=>ad (ah P H 4 j) λc=>aK c V (aM t) λe=>aK c V (aM b) λf=>aK c V (az (aF P 104 e.val f.val)) λd=>aK c V (qr (ah P (d.heap (f.heap (e.heap H))) 4 d.val)) λg=>ad (aN c (D g.val) (D (Z U))) λq=>ad (aF P 104 n b) λr=>ed (g.heap (d.heap (f.heap (e.heap H)))) (aA P (g.heap (d.heap (f.heap (e.heap H)))) 4 r q) λy k=>bif b3 [0,1,3,7,0,0,32,96,224,0,992,2016,4064,8160,8160,32736,65504,131040,262143,524287] [0,1,2,3,4,5,6,7,8,9,10,11,12,13,14,15,16,17,18,19] [⟨0,.pure a,λH=>Y⟩,⟨1,.pure m,λH=>Y⟩,⟨2,.pure h,λH=>Y⟩,⟨3,.read n,λH=>ah P H 104 h⟩,⟨4,.pure b,λH=>Y⟩,⟨5,.pure a,λH=>Y⟩,⟨6,.pure o,λH=>Y⟩,⟨7,.pure i,λH=>Y⟩,⟨8,.read p,λH=>ah P H 104 i⟩,⟨9,.pure b,λH=>Y⟩,⟨10,.pure j,λH=>Y⟩,⟨11,.read c,λH=>ah P H 4 j⟩,⟨12,.pure c,λH=>Y⟩,⟨13,e,λH=>Y⟩,⟨14,f,λH=>Y⟩,⟨15,d,λH=>Y⟩,⟨16,g,λH=>ah P H 4 d.val⟩,⟨17,.pure q,λH=>Y⟩,⟨18,.pure r,λH=>Y⟩,⟨19,.br y k,λH=>Y⟩] H then(ad (al P .add 3 V b (I J 1)) λC=>v a l s t C k)else Y) (cK G N u a l s H)
def iA(G:ai)(N:Nat)(a:aa->aa->aa->ae->O):Nat->aa->aa->aa->aa->aa->ae->O
 |0,_,_,_,_,_,_=>Y
 |n+1,b,c,e,f,d,H=>td G N a (iA G N a n) b c e f d H
def KU(G:ai)(N:Nat)(a:aa->aa->aa->ae->O)(c:aa->aa->aa->aa->aa->ae->O):∀C H,aE P G N (an (an (af (af (af (af (af (af (an (af (af (af (af (af (af (af (af (af (af (af (an (af (af (af (an (an (af (an (an (af (aG Tryz.f121))))))))))))))))))))))))))))))) (λC H=>c (C 0) (C 1) (C 4) (C 9) (C 10) H) [(5,(λC H=>cK G N a (C 0) (C 1) (C 4) H)),(4,(λC H=>cK G N a (C 0) (C 1) (C 4) H)),(1,(λC H=>cK G N a (C 0) (C 1) (C 4) H)),(0,(ay Tryz.f121))] (ay Tryz.f121) C H=td G N a c (C 0) (C 1) (C 4) (C 9) (C 10) H:=by
 refine aH (aj _) λC H=> ?_
 delta td;generalize cK G N a=b;revert b;refine id ?_;intro b;kernel_rfl
def iy(G:ai)(N:Nat)(c:aa->aa->aa->ae->O)(a d:aa)(e f:aa)(H:ae):O:=ad (ak P 192 f 0) λp=>ad (ah P H 3 p) λh=>ad (al P .eql 3 V h (I J 1)) λq=>ax (D q) (ad (aL a) λr=>ad (ak P 188 r 0) λs=>ad (ah P H 104 s) λt=>ad (ak P 192 f 7) λu=>ad (ah P H 3 u) λv=>ad (aF P 104 t v) λw=>aB H (aA P H 4 w (Z U)) λb=>cK G N c a d e b) (ad (al P .eql 3 V h (I J 2)) λx=>ax (D x) (ad (aL a) λy=>ad (ak P 188 y 0) λz=>ad (ah P H 104 z) λA=>ad (ak P 192 f 7) λB=>ad (ah P H 3 B) λC=>ad (aF P 104 A C) λE=>aB H (aA P H 4 E (Z V)) λb=>cK G N c a d e b) (ad (al P .eql 3 V h (I J 3)) λF=>ax (D F) (ad (ak P 192 f 7) λK=>ad (ah P H 3 K) λL=>ad (al P .geq 3 V L (I J 0)) λM=>ax (D M) (ad (aL a) λQ=>ad (ak P 188 Q 0) λR=>ad (ah P H 104 R) λS=>ad (ak P 192 f 7) λT=>ad (ah P H 3 T) λW=>ad (aF P 104 S W) λab=>aB H (aA P H 4 ab (Z V)) λb=>cK G N c a d e b) (cK G N c a d e H)) (ad (al P .eql 3 V h (I J 7)) λaf=>ax (D af) (au H (G 164 [a] H) λaN b=>cK G N c a d e b) (ad (al P .eql 3 V h (I J 6)) λaj=>ax (D aj) (ad (aL a) λam=>ad (ak P 188 am 0) λan=>ad (ah P H 104 an) λao=>au H (bJ P H [104,104] aa.ar ao) λap b=>ad (ak P 192 f 4) λaq=>ad (ah P b 126 aq) λav=>au b (G 121 [a,av] b) λaO g=>ad (aL a) λaw=>ad (ak P 188 aw 0) λay=>aB g (aA P g 104 ay ap) λi=>cK G N c a d e i) (ad (al P .eql 3 V h (I J 5)) λaz=>ax (D az) (ad (aL a) λaC=>ad (ak P 188 aC 0) λaD=>ad (ah P H 104 aD) λaE=>au H (bJ P H [104,104] aa.ar aE) λaG b=>ad (ak P 192 f 4) λaH=>ad (ah P b 126 aH) λaI=>au b (G 121 [a,aI] b) λaP g=>ad (aL a) λaJ=>ad (ak P 188 aJ 0) λaK=>ad (ah P g 104 aK) λk=>ad (aL a) λl=>ad (ak P 188 l 0) λm=>aB g (aA P g 104 m aG) λi=>ad (ak P 192 f 5) λn=>ad (ah P i 126 n) λo=>au i (G 121 [a,o] i) λaM j=>iA G N c N a d e k (I J 0) j) (cK G N c a d e H))))))
def KY(G:ai)(N:Nat)(a:aa->aa->aa->ae->O):∀C H,aE P G N (af (af (an (an (af (an (an (af (aG Tryz.f121))))))))) (λC H=>cK G N a (C 0) (C 1) (C 4) H) [(1,(λC H=>cK G N a (C 0) (C 1) (C 4) H)),(0,(ay Tryz.f121))] (ay Tryz.f121) C H=iy G N a (C 0) (C 1) (C 4) (C 5) H:=by
 refine aH ((aq j ((aT j ((aq j ((bB j (aj _) ((aq j ((bB j (aj _) ((aq j ((bB j (aj _) ((aq j ((bB j (aj _) ((aq j ((bB j (aj _) ((aq j ((bB j ((aq j ((aq j ((aq j ((aq j ((aq j ((aq j ((aT j ((a8 (k:=λm C H=>iA G N a m (C 0) (C 1) (C 4) (C 9) (C 10) H) j (λC H=>j) (λm=>KU G N a (iA G N a m)))))) (aj _))) (aj _))) (aj _))) (aj _))) (aj _))) (aj _))) (aj _))) (aj _))))) (aj _))))) (aj _))))) (aj _))))) (aj _))))) (aj _))))) (aj _))) λC H=> ?_
 delta iy;generalize iA G N a N=b;generalize cK G N a=c;revert b c;refine id ?_;intro b c;kernel_rfl
def te(G:ai)(N:Nat)(f:aa->aa->aa->ae->O)(g:aa->aa->aa->aa->aa->ae->O)(b d:aa)(e a c:aa)(H:ae):O:=ad (ak P 192 a 3) λi=>ad (ah P H 190 i) λj=>aZ P .len [190] [j] H λk=>ad (al P .lss 3 U c k) λl=>ax (D l) (ad (ak P 192 a 3) λn=>ad (ah P H 190 n) λo=>ad (aF P 190 o c) λp=>ad (ah P H 235 p) λq=>au H (G 163 [b,q] H) λr h=>ad (al P .add 3 V c (I J 1)) λm=>g b d e a m h) (iy G N f b d e a H)
def iB(G:ai)(N:Nat)(a:aa->aa->aa->ae->O):Nat->aa->aa->aa->aa->aa->ae->O
 |0,_,_,_,_,_,_=>Y
 |n+1,b,c,d,e,f,H=>te G N a (iB G N a n) b c d e f H
def KV(G:ai)(N:Nat)(a:aa->aa->aa->ae->O)(c:aa->aa->aa->aa->aa->ae->O):∀C H,aE P G N (an (an (af (an (af (an (an (af (an (an (af (aG Tryz.f121)))))))))))) (λC H=>c (C 0) (C 1) (C 4) (C 5) (C 6) H) [(2,(λC H=>iy G N a (C 0) (C 1) (C 4) (C 5) H)),(1,(λC H=>cK G N a (C 0) (C 1) (C 4) H)),(0,(ay Tryz.f121))] (ay Tryz.f121) C H=te G N a c (C 0) (C 1) (C 4) (C 5) (C 6) H:=by
 refine aH (aj _) λC H=> ?_
 delta te;generalize iy G N a=b;revert b;refine id ?_;intro b;kernel_rfl
def tc(G:ai)(N:Nat)(e:aa->aa->aa->ae->O)(g a b:aa)(H:ae):O:=aZ P .len [126] [a] H λh=>ad (al P .lss 3 U b h) λi=>ax (D i) (ad (aF P 126 a b) λj=>ad (ah P H 192 j) λk=>a7 H [I J 0,X [],X [],I J 0,aa.ar,aa.ar,aa.ar,I J 0,I J 0] λd c=>aB c (aA P c 192 d k) λf=>iB G N e N g a b d (I J 0) f) (D (.tuple [],H))
def iz(G:ai)(N:Nat):Nat->aa->aa->aa->ae->O
 |0,_,_,_,_=>Y
 |n+1,a,b,c,H=>tc G N (iz G N n) a b c H
def KT(G:ai)(N:Nat)(a:aa->aa->aa->ae->O):∀C H,aE P G N (an (an (af (aG Tryz.f121)))) (λC H=>a (C 0) (C 1) (C 4) H) [(0,(ay Tryz.f121))] (ay Tryz.f121) C H=tc G N a (C 0) (C 1) (C 4) H:=by
 refine aH ((aq j ((aq j (KX G N a) ((aT j ((aq j ((aq j (KY G N a) ((aq j ((aT j ((a8 (k:=λm C H=>iB G N a m (C 0) (C 1) (C 4) (C 5) (C 6) H) j (λC H=>j) (λm=>KV G N a (iB G N a m)))))) (aj _))))) (aj _))))))) (aj _))) λC H=> ?_
 delta tc;generalize iB G N a N=b;revert b;refine id ?_;intro b;kernel_rfl
def n_(G:ai)(N:Nat)(a b:aa)(H:ae):O:=iz G N N a b (I J 0) H
def KW(G:ai)(N:Nat)(b:aa)(c:aa)(H:ae):aD Tryz.f121 G N (aP [b,c]) H=n_ G N b c H:=by
 refine aS (A:=aD Tryz.f121 G N) ((aq j ((aT j ((a8 (k:=λm C H=>iz G N m (C 0) (C 1) (C 4) H) j (λC H=>j) (λm=>KT G N (iz G N m)))))) (aj _))) ?_;delta n_;generalize iz G N N=a;revert a;refine id ?_;intro a;kernel_rfl
def oK(G:ai)(d:aa)(H:ae):O:=a7 H [I J 0,I J 0] λc a=>ad (bh P 65 [(0,(I J 3)),(1,d)]) λe=>aB a (aA P a 65 c e) λb=>ad (ah P b 65 c) λr=>D (r,b)
def Mt(G:ai)(N:Nat)(a:aa)(H:ae):aD Tryz.f159 G N (aP [a]) H=oK G a H:=by
 refine aS (A:=aD Tryz.f159 G N) (aj _) ?_;delta oK;kernel_rfl
def e0(G:ai)(N:Nat)(b c:aa)(H:ae):O:=aB H (aA P H 65 b (.agg [I J 0,I J 0])) λa=>ad (ah P a 65 b) λr=>D (.tuple [c,r],a)
def Mx(G:ai)(N:Nat):∀C H,aE P G N (af (af (af (aG Tryz.f160)))) (ay Tryz.f160) [] (ay Tryz.f160) C H=e0 G N (C 5) (C 6) H:=by
 refine aH (aj _) λC H=> ?_
 delta e0;kernel_rfl
def fN(G:ai)(N:Nat)(a:aa->aa->aa->aa->aa->ae->O)(b c:aa)(e f g:aa)(H:ae):O:=ad (al P .add 3 V g (I J 1)) λd=>a b c e f d H
def My(G:ai)(N:Nat)(a:aa->aa->aa->aa->aa->ae->O):∀C H,aE P G N (af (af (an (an (af (an (af (af (aG Tryz.f160))))))))) (λC H=>a (C 0) (C 1) (C 5) (C 6) (C 7) H) [(0,(λC H=>e0 G N (C 5) (C 6) H))] (ay Tryz.f160) C H=fN G N a (C 0) (C 1) (C 5) (C 6) (C 7) H:=by
 refine aH (aj _) λC H=> ?_
 delta fN;kernel_rfl
def jG(G:ai)(N:Nat)(f:aa->aa->aa->aa->aa->ae->O)(g c:aa)(d p:aa)(e v w:aa)(H:ae):O:=ad (bt .not w) λh=>ax (D h) (ad (aF P 59 c e) λi=>ad (ak P 123 i 2) λj=>ad (ah P H 3 j) λk=>au H (G 159 [k] H) λl a=>aB a (aA P a 65 d l) λb=>ad (ah P b 65 d) λr=>D (.tuple [aa.ar,r],b)) (ad (aF P 59 c e) λm=>ad (ak P 123 m 0) λn=>ad (ah P H 9 n) λo=>ad (ah P H 46 v) λq=>ad (bh P 98 [(0,o),(1,q)]) λs=>aO H (bl P (H).next 93 1 [(0,s)]) λt a=>au a (bJ P a [93,93] p t) λu b=>fN G N f g c d u e b)
def Mz(G:ai)(N:Nat)(a:aa->aa->aa->aa->aa->ae->O):∀C H,aE P G N (af (af (an (an (af (an (an (af (an (af (af (aG Tryz.f160)))))))))))) (λC H=>fN G N a (C 0) (C 1) (C 5) (C 6) (C 7) H) [(1,(λC H=>fN G N a (C 0) (C 1) (C 5) (C 6) (C 7) H)),(0,(λC H=>e0 G N (C 5) (C 6) H))] (ay Tryz.f160) C H=jG G N a (C 0) (C 1) (C 5) (C 6) (C 7) (C 8) (C 9) H:=by
 refine aH (aj _) λC H=> ?_
 delta jG;generalize fN G N a=b;revert b;refine id ?_;intro b;kernel_rfl
def tI(G:ai)(N:Nat)(k:aa->aa->aa->aa->aa->ae->O)(l:aa->aa->aa->aa->aa->aa->aa->aa->ae->O)(g b:aa)(h i:aa)(c j:aa)(a d:aa)(H:ae):O:=ad (al P .lss 3 U d c) λv=>ax (D v) (ao a V H (aM b) λx m=>ao a V m (aM d) λy p=>ao a V p (az (aF P 59 x y)) λz q=>ao a V q (az (ak P 123 z 0)) λA e=>ao a V e (qr (ah P e 9 A)) λB r=>ao a V r (aM b) λC s=>ao a V s (aM c) λE t=>ao a V t (az (aF P 59 C E)) λF u=>ao a V u (az (ak P 123 F 0)) λK f=>ao a V f (qr (ah P f 9 K)) λL n=>ao a V n (az (al P .neq 9 U B L)) λM o=>ad (aN a (D M) (D (Z U))) λQ=>ad (al P .add 3 V d (I J 1)) λw=>l g b h i c j Q w o) (jG G N k g b h i c j a H)
def jI(G:ai)(N:Nat)(a:aa->aa->aa->aa->aa->ae->O):Nat->aa->aa->aa->aa->aa->aa->aa->aa->ae->O
 |0,_,_,_,_,_,_,_,_,_=>Y
 |n+1,b,c,e,f,g,h,i,d,H=>tI G N a (jI G N a n) b c e f g h i d H
def Mv(G:ai)(N:Nat)(a:aa->aa->aa->aa->aa->ae->O)(c:aa->aa->aa->aa->aa->aa->aa->aa->ae->O):∀C H,aE P G N (an (an (af (an (af (an (an (af (an (an (af (an (af (af (aG Tryz.f160))))))))))))))) (λC H=>c (C 0) (C 1) (C 5) (C 6) (C 7) (C 8) (C 9) (C 10) H) [(2,(λC H=>jG G N a (C 0) (C 1) (C 5) (C 6) (C 7) (C 8) (C 9) H)),(1,(λC H=>fN G N a (C 0) (C 1) (C 5) (C 6) (C 7) H)),(0,(λC H=>e0 G N (C 5) (C 6) H))] (ay Tryz.f160) C H=tI G N a c (C 0) (C 1) (C 5) (C 6) (C 7) (C 8) (C 9) (C 10) H:=by
 refine aH (aj _) λC H=> ?_
 delta tI;generalize jG G N a=b;revert b;refine id ?_;intro b;kernel_rfl
def tH(G:ai)(N:Nat)(i:aa->aa->aa->aa->aa->ae->O)(d a:aa)(f g b:aa)(H:ae):O:=aZ P .len [59] [a] H λl=>ad (al P .lss 3 U b l) λm=>ax (D m) (ad (aF P 59 a b) λn=>ad (ak P 123 n 1) λo=>ad (ah P H 121 o) λp=>au H (G 161 [d,p] H) λe j=>ad (bG e 0) λq=>ad (bG e 1) λr=>a7 j [I J 0,I J 0,I J 0] λh c=>aB c (aA P c 46 h q) λk=>jI G N i N d a f g b h r (I J 0) k) (e0 G N f g H)
def jH(G:ai)(N:Nat):Nat->aa->aa->aa->aa->aa->ae->O
 |0,_,_,_,_,_,_=>Y
 |n+1,a,b,c,d,e,H=>tH G N (jH G N n) a b c d e H
def Mu(G:ai)(N:Nat)(a:aa->aa->aa->aa->aa->ae->O):∀C H,aE P G N (an (an (af (an (af (af (aG Tryz.f160))))))) (λC H=>a (C 0) (C 1) (C 5) (C 6) (C 7) H) [(0,(λC H=>e0 G N (C 5) (C 6) H))] (ay Tryz.f160) C H=tH G N a (C 0) (C 1) (C 5) (C 6) (C 7) H:=by
 refine aH ((aq j ((aq j (My G N a) ((aT j ((aq j ((aq j (Mz G N a) ((aq j ((aT j ((a8 (k:=λm C H=>jI G N a m (C 0) (C 1) (C 5) (C 6) (C 7) (C 8) (C 9) (C 10) H) j (λC H=>j) (λm=>Mv G N a (jI G N a m)))))) (aj _))))) (aj _))))))) (aj _))) λC H=> ?_
 delta tH;generalize e0 G N=b;generalize jI G N a N=c;revert b c;refine id ?_;intro b c;kernel_rfl
def oL(G:ai)(N:Nat)(b c:aa)(H:ae):O:=a7 H [I J 0,I J 0] λd a=>jH G N N b c d aa.ar (I J 0) a
def Mw(G:ai)(N:Nat)(b:aa)(c:aa)(H:ae):aD Tryz.f160 G N (aP [b,c]) H=oL G N b c H:=by
 refine aS (A:=aD Tryz.f160 G N) ((aq j ((aq j ((aq j (Mx G N) ((aq j ((aT j ((a8 (k:=λm C H=>jH G N m (C 0) (C 1) (C 5) (C 6) (C 7) H) j (λC H=>j) (λm=>Mu G N (jH G N m)))))) (aj _))))) (aj _))) (aj _))) ?_;delta oL;generalize jH G N N=a;revert a;refine id ?_;intro a;kernel_rfl
def jJ(G:ai)(N:Nat)(b:aa)(H:ae):O:=aB H (aA P H 46 b (.agg [I J 0,I J 0,I J 0])) λa=>ad (ah P a 46 b) λr=>D (.tuple [r,Z U],a)
def MC(G:ai)(N:Nat):∀C H,aE P G N (af (af (af (af (aG Tryz.f161))))) (ay Tryz.f161) [] (ay Tryz.f161) C H=jJ G N (C 4) H:=by
 refine aH (aj _) λC H=> ?_
 delta jJ;kernel_rfl
def tJ(G:ai)(N:Nat)(f:aa->aa->aa->aa->ae->O)(c d:aa)(a b:aa)(H:ae):O:=aZ P .len [57] [c] H λg=>ad (al P .lss 3 U b g) λh=>ax (D h) (ad (aF P 57 c b) λj=>ad (ah P H 9 j) λk=>ad (ak P 121 d 0) λl=>ad (ah P H 9 l) λm=>ad (al P .eql 9 U k m) λn=>ax (D n) (ad (ak P 121 d 1) λo=>ad (ah P H 3 o) λp=>ad (bh P 46 [(0,(I J 3)),(1,b),(2,p)]) λq=>aB H (aA P H 46 a q) λe=>ad (ah P e 46 a) λr=>D (.tuple [r,Z V],e)) (ad (al P .add 3 V b (I J 1)) λi=>f c d a i H)) (jJ G N a H)
def jK(G:ai)(N:Nat):Nat->aa->aa->aa->aa->ae->O
 |0,_,_,_,_,_=>Y
 |n+1,a,b,c,d,H=>tJ G N (jK G N n) a b c d H
def MA(G:ai)(N:Nat)(b:aa->aa->aa->aa->ae->O):∀C H,aE P G N (an (an (af (an (af (af (af (aG Tryz.f161)))))))) (λC H=>b (C 0) (C 3) (C 4) (C 6) H) [(1,(λC H=>jJ G N (C 4) H))] (ay Tryz.f161) C H=tJ G N b (C 0) (C 3) (C 4) (C 6) H:=by
 refine aH (aj _) λC H=> ?_
 delta tJ;generalize jJ G N=a;revert a;refine id ?_;intro a;kernel_rfl
def oM(G:ai)(N:Nat)(k l:aa)(H:ae):O:=aO H (bo (H).next l) λd i=>a7 i [I J 0,I J 0,I J 0] λc f=>ad (ak P 121 d 1) λA=>ad (ah P f 3 A) λB=>ad (al P .lss 3 V B (I J 0)) λe=>ao e U f (az (ak P 121 d 1)) λm g=>ao e U g (qr (ah P g 3 m)) λn j=>ao e U j (az (al P .gtr 3 V n (I J 3))) λo a=>ad (aN e (D (Z V)) (D o)) λp=>ax (D p) (aB a (aA P a 46 c (.agg [I J 0,I J 0,I J 0])) λb=>ad (ah P b 46 c) λr=>D (.tuple [r,Z U],b)) (ad (ak P 121 d 0) λq=>ad (ah P a 9 q) λh=>ad (al P .eql 9 V h (X [105,110,116])) λs=>ax (D s) (ad (ak P 121 d 1) λt=>ad (ah P a 3 t) λu=>ad (bh P 46 [(0,(I J 1)),(2,u)]) λv=>aB a (aA P a 46 c v) λb=>ad (ah P b 46 c) λr=>D (.tuple [r,Z V],b)) (ad (al P .eql 9 V h (X [98,111,111,108])) λw=>ax (D w) (ad (ak P 121 d 1) λx=>ad (ah P a 3 x) λy=>ad (bh P 46 [(0,(I J 2)),(2,y)]) λz=>aB a (aA P a 46 c z) λb=>ad (ah P b 46 c) λr=>D (.tuple [r,Z V],b)) (jK G N N k d c (I J 0) a)))
def MB(G:ai)(N:Nat)(b:aa)(c:aa)(H:ae):aD Tryz.f161 G N (aP [b,c]) H=oM G N b c H:=by
 refine aS (A:=aD Tryz.f161 G N) ((aq j ((aq j ((aq j ((aq j (MC G N) ((aq j ((aT j ((a8 (k:=λm C H=>jK G N m (C 0) (C 3) (C 4) (C 6) H) j (λC H=>j) (λm=>MA G N (jK G N m)))))) (aj _))))) (aj _))) (aj _))) (aj _))) ?_;delta oM;generalize jK G N N=a;revert a;refine id ?_;intro a;kernel_rfl
def jR(G:ai)(N:Nat)(b d:aa)(H:ae):O:=ad (ah P H 192 d) λc=>aB H (aA P H 192 b c) λa=>ad (ah P a 192 b) λr=>D (r,a)
def MQ(G:ai)(N:Nat):∀C H,aE P G N (af (af (af (af (af (af (af (af (af (af (af (af (af (af (af (af (aG Tryz.f162))))))))))))))))) (ay Tryz.f162) [] (ay Tryz.f162) C H=jR G N (C 4) (C 5) H:=by
 refine aH (aj _) λC H=> ?_
 delta jR;kernel_rfl
def jQ(G:ai)(N:Nat)(f c:aa)(d a:aa)(H:ae):O:=ad (ak P 192 c 0) λg=>ad (ah P H 3 g) λh=>ad (al P .eql 3 V h (I J 5)) λi=>ax (D i) (ad (ak P 192 c 5) λj=>ad (ah P H 126 j) λk=>au H (G 119 [f,k] H) λl b=>ad (ak P 192 a 5) λm=>aB b (aA P b 126 m l) λe=>jR G N d a e) (jR G N d a H)
def MP(G:ai)(N:Nat):∀C H,aE P G N (af (af (af (af (af (af (af (af (af (af (af (af (af (af (af (aG Tryz.f162)))))))))))))))) (ay Tryz.f162) [] (ay Tryz.f162) C H=jQ G N (C 0) (C 3) (C 4) (C 5) H:=by
 refine aH ((aq j (MQ G N) (aj _))) λC H=> ?_
 delta jQ;generalize jR G N=a;revert a;refine id ?_;intro a;kernel_rfl
def jP(G:ai)(N:Nat)(d a:aa)(h e:aa)(H:ae):O:=ad (ak P 192 a 0) λk=>ad (ah P H 3 k) λl=>ad (al P .eql 3 V l (I J 5)) λc=>ao c U H (az (ak P 192 a 0)) λm f=>ao c U f (qr (ah P f 3 m)) λn i=>ao c U i (az (al P .eql 3 V n (I J 6))) λo b=>ad (aN c (D (Z V)) (D o)) λp=>ax (D p) (ad (ak P 192 a 4) λq=>ad (ah P b 126 q) λr=>au b (G 119 [d,r] b) λs g=>ad (ak P 192 e 4) λt=>aB g (aA P g 126 t s) λj=>jQ G N d a h e j) (jQ G N d a h e b)
def MO(G:ai)(N:Nat):∀C H,aE P G N (af (af (af (af (af (af (af (af (af (af (af (af (af (af (aG Tryz.f162))))))))))))))) (ay Tryz.f162) [] (ay Tryz.f162) C H=jP G N (C 0) (C 3) (C 4) (C 5) H:=by
 refine aH ((aq j (MP G N) (aj _))) λC H=> ?_
 delta jP;generalize jQ G N=a;revert a;refine id ?_;intro a;kernel_rfl
def jO(G:ai)(N:Nat)(f b:aa)(g d c:aa)(H:ae):O:=ao c U H (az (ak P 192 b 0)) λj e=>ao c U e (qr (ah P e 3 j)) λk h=>ao c U h (az (al P .eql 3 V k (I J 3))) λl a=>ad (aN c (D (Z V)) (D l)) λm=>ax (D m) (ad (ak P 192 b 1) λn=>ad (ah P a 9 n) λo=>ad (ak P 192 d 1) λp=>aB a (aA P a 9 p o) λi=>jP G N f b g d i) (jP G N f b g d a)
def MM(G:ai)(N:Nat):∀C H,aE P G N (af (af (af (af (af (af (af (af (af (af (af (af (af (aG Tryz.f162)))))))))))))) (ay Tryz.f162) [] (ay Tryz.f162) C H=jO G N (C 0) (C 3) (C 4) (C 5) (C 7) H:=by
 refine aH ((aq j (MO G N) (aj _))) λC H=> ?_
 delta jO;generalize jP G N=a;revert a;refine id ?_;intro a;kernel_rfl
def fO(G:ai)(N:Nat)(c d:aa)(e h:aa)(z i k:aa)(H:ae):O:=ad (bt .not k) λl=>ax (D l) (ad (ak P 192 d 6) λm=>ad (ah P H 3 m) λn=>au H (G 210 [c,n] H) λA a=>ad (ah P a 192 h) λo=>aB a (aA P a 192 e o) λb=>ad (ah P b 192 e) λr=>D (r,b)) (ax (D i) (ad (aL c) λp=>ad (ak P 184 p 3) λf=>ad (ah P H 93 f) λg=>ad (ak P 192 d 1) λq=>ad (ah P H 9 q) λs=>ad (ah P H 46 z) λt=>ad (bh P 98 [(0,s),(1,t)]) λu=>aO H (bl P (H).next 93 1 [(0,u)]) λv a=>au a (bJ P a [93,93] g v) λw b=>ad (aL c) λx=>ad (ak P 184 x 3) λy=>aB b (aA P b 93 y w) λj=>bif ((aJ (ah P H 93 f) g&&(aJ (ah P a 93 f) g&&V))&&V)then(jO G N c d e h i j)else Y) (jO G N c d e h i H))
def ML(G:ai)(N:Nat):∀C H,aE P G N (af (af (af (af (af (af (af (af (af (af (af (aG Tryz.f162)))))))))))) (ay Tryz.f162) [] (ay Tryz.f162) C H=fO G N (C 0) (C 3) (C 4) (C 5) (C 6) (C 7) (C 11) H:=by
 refine aH ((aq j ((aq j (MM G N) (aj _))) (aj _))) λC H=> ?_
 delta fO;generalize jO G N=a;revert a;refine id ?_;intro a;kernel_rfl
def jS(G:ai)(N:Nat)(a j:aa)(k b:aa)(l m d:aa)(H:ae):O:=ad (aL a) λe=>ad (ak P 184 e 3) λf=>ad (ah P H 93 f) λg=>aZ P .len [93] [g] H λh=>ad (ak P 192 b 7) λi=>aB H (aA P H 3 i h) λc=>fO G N a j k b l m d c
def MR(G:ai)(N:Nat):∀C H,aE P G N (af (an (af (an (af (af (af (af (af (af (af (af (af (af (aG Tryz.f162))))))))))))))) (λC H=>fO G N (C 0) (C 3) (C 4) (C 5) (C 6) (C 7) (C 11) H) [] (ay Tryz.f162) C H=jS G N (C 0) (C 3) (C 4) (C 5) (C 6) (C 7) (C 11) H:=by
 refine aH (aj _) λC H=> ?_
 delta jS;generalize fO G N=a;revert a;refine id ?_;intro a;kernel_rfl
def tL(G:ai)(N:Nat)(l:aa->aa->aa->aa->aa->aa->aa->aa->ae->O)(b d:aa)(h i:aa)(j k:aa)(a c:aa)(H:ae):O:=ad (aL b) λu=>ad (ak P 184 u 3) λv=>ad (ah P H 93 v) λw=>aZ P .len [93] [w] H λx=>ad (al P .lss 3 U c x) λy=>ax (D y) (ao a V H (aM b) λA m=>ao a V m (az (aL A)) λB p=>ao a V p (az (ak P 184 B 3)) λC e=>ao a V e (qr (ah P e 93 C)) λE q=>ao a V q (aM c) λF r=>ao a V r (az (aF P 93 E F)) λK s=>ao a V s (az (ak P 98 K 0)) λL f=>ao a V f (qr (ah P f 9 L)) λM t=>ao a V t (az (ak P 192 d 1)) λQ g=>ao a V g (qr (ah P g 9 Q)) λR n=>ao a V n (az (al P .neq 9 U M R)) λS o=>ad (aN a (D S) (D (Z U))) λT=>ad (al P .add 3 V c (I J 1)) λz=>l b d h i j k T z o) (jS G N b d h i j k a H)
def jU(G:ai)(N:Nat):Nat->aa->aa->aa->aa->aa->aa->aa->aa->ae->O
 |0,_,_,_,_,_,_,_,_,_=>Y
 |n+1,a,d,e,f,g,h,b,c,H=>tL G N (jU G N n) a d e f g h b c H
def ME(G:ai)(N:Nat)(b:aa->aa->aa->aa->aa->aa->aa->aa->ae->O):∀C H,aE P G N (an (an (af (an (an (af (an (af (af (af (af (af (af (af (af (af (af (aG Tryz.f162)))))))))))))))))) (λC H=>b (C 0) (C 3) (C 4) (C 5) (C 6) (C 7) (C 11) (C 15) H) [(3,(λC H=>jS G N (C 0) (C 3) (C 4) (C 5) (C 6) (C 7) (C 11) H))] (ay Tryz.f162) C H=tL G N b (C 0) (C 3) (C 4) (C 5) (C 6) (C 7) (C 11) (C 15) H:=by
 refine aH (aj _) λC H=> ?_
 delta tL;generalize jS G N=a;revert a;refine id ?_;intro a;kernel_rfl
def dr(G:ai)(N:Nat)(b d:aa)(e f:aa)(g a c:aa)(H:ae):O:=ax (D a) (jU G N N b d e f g a c (I J 0) H) (fO G N b d e f g a c H)
def MK(G:ai)(N:Nat):∀C H,aE P G N (af (af (af (af (af (af (af (af (af (af (aG Tryz.f162))))))))))) (ay Tryz.f162) [] (ay Tryz.f162) C H=dr G N (C 0) (C 3) (C 4) (C 5) (C 6) (C 7) (C 11) H:=by
 refine aH ((aq j (ML G N) ((aq j ((bB j ((aq j (MR G N) ((aq j ((aT j ((a8 (k:=λm C H=>jU G N m (C 0) (C 3) (C 4) (C 5) (C 6) (C 7) (C 11) (C 15) H) j (λC H=>j) (λm=>ME G N (jU G N m)))))) (aj _))))) (aj _))) (aj _))))) λC H=> ?_
 delta dr;generalize fO G N=a;generalize jU G N N=b;revert a b;refine id ?_;intro a b;kernel_rfl
def jM(G:ai)(N:Nat)(d e:aa)(f c:aa)(g h:aa)(B s C:aa)(H:ae):O:=ax (D C) (au H (G 214 [] H) λF a=>ad (ak P 192 c 3) λi=>ad (ah P a 190 i) λj=>ad (aF P 190 j (I J 0)) λE=>ad (ak P 235 E 6) λk=>ad (ah P a 46 k) λl=>ad (al P .eql 46 U l F) λK=>bif ((aJ (ah P H 190 i) j&&aJ (ah P a 190 i) j)&&((aJ (ah P H 46 k) l&&aJ (ah P a 46 k) l)&&V))then(dr G N d e f c g h K a)else Y) (ad (al P .eql 3 V s (I J 7)) λL=>ax (D L) (ad (aL d) λM=>ad (ak P 184 M 2) λQ=>ad (ak P 143 Q 2) λR=>ad (ah P H 4 R) λS=>ad (bt .not S) λb=>ao b U H (az (ak P 192 c 3)) λT a=>ao b U a (qr (ah P a 190 T)) λW v=>ao b U v (az (aF P 190 W (I J 0))) λab w=>ao b U w (az (ak P 235 ab 6)) λaf q=>ao b U q (qr (ah P q 46 af)) λaj x=>ao b U x (aM d) λam y=>ao b U y (az (aL am)) λan z=>ao b U z (az (ak P 184 an 2)) λap A=>ao b U A (az (ak P 143 ap 3)) λaq r=>ao b U r (qr (ah P r 46 aq)) λav t=>ao b U t (az (al P .eql 46 U aj av)) λaw u=>ad (aN b (D (Z V)) (D aw)) λay=>dr G N d e f c g h ay u) (ad (al P .eql 3 V s (I J 8)) λaA=>ax (D aA) (au H (G 215 [] H) λaC a=>ad (ak P 192 c 3) λm=>ad (ah P a 190 m) λn=>ad (aF P 190 n (I J 0)) λaB=>ad (ak P 235 aB 6) λo=>ad (ah P a 46 o) λp=>ad (al P .eql 46 U p aC) λaD=>bif ((aJ (ah P H 190 m) n&&aJ (ah P a 190 m) n)&&((aJ (ah P H 46 o) p&&aJ (ah P a 46 o) p)&&V))then(dr G N d e f c g h aD a)else Y) (dr G N d e f c g h B H)))
def MH(G:ai)(N:Nat):∀C H,aE P G N (af (af (af (af (af (af (af (an (af (an (af (af (af (af (af (af (af (af (af (aG Tryz.f162)))))))))))))))))))) (λC H=>dr G N (C 0) (C 3) (C 4) (C 5) (C 6) (C 7) (C 11) H) [(2,(λC H=>dr G N (C 0) (C 3) (C 4) (C 5) (C 6) (C 7) (C 11) H))] (ay Tryz.f162) C H=jM G N (C 0) (C 3) (C 4) (C 5) (C 6) (C 7) (C 11) (C 103) (C 148) H:=by
 refine aH (aj _) λC H=> ?_
 delta jM;generalize dr G N=a;revert a;refine id ?_;intro a;kernel_rfl
def gV(G:ai)(N:Nat)(d f:aa)(g b:aa)(h i:aa)(H:ae):O:=au H (G 120 [d] H) λaR a=>ad (bt .not aR) λy=>ax (D y) (ad (ah P a 192 b) λz=>aB a (aA P a 192 g z) λj=>ad (ah P j 192 g) λr=>D (r,j)) (ad (ak P 192 f 0) λA=>ad (ah P a 3 A) λe=>ad (al P .eql 3 V e (I J 2)) λB=>ax (D B) (ad (ak P 192 b 3) λC=>ad (ah P a 190 C) λE=>ad (aF P 190 E (I J 0)) λF=>ad (ak P 235 F 6) λK=>ad (ah P a 46 K) λL=>ad (ah P a 46 h) λM=>ad (al P .eql 46 U L M) λQ=>dr G N d f g b h i Q a) (ad (al P .eql 3 V e (I J 3)) λR=>ax (D R) (ad (ak P 192 f 1) λS=>ad (ah P a 9 S) λT=>au a (G 213 [d,T] a) λk j=>ad (bG k 0) λW=>ad (bG k 1) λab=>ad (bG k 2) λc=>a7 j [I J 0,I J 0,I J 0] λq m=>aB m (aA P m 46 q ab) λn=>ad (ak P 192 b 7) λaf=>aB n (aA P n 3 af W) λo=>ao c V o (qr (ah P o 46 q)) λaj v=>ao c V v (az (ak P 192 b 3)) λam p=>ao c V p (qr (ah P p 190 am)) λan w=>ao c V w (az (aF P 190 an (I J 0))) λap x=>ao c V x (az (ak P 235 ap 6)) λaq l=>ao c V l (qr (ah P l 46 aq)) λav t=>ao c V t (az (al P .eql 46 U aj av)) λaw u=>ad (aN c (D aw) (D (Z U))) λay=>dr G N d f g b h i ay u) (ad (al P .eql 3 V e (I J 4)) λaC=>ax (D aC) (ad (ak P 192 b 3) λaD=>ad (ah P a 190 aD) λaE=>ad (aF P 190 aE (I J 0)) λaG=>ad (ak P 235 aG 6) λaH=>ad (ah P a 46 aH) λaI=>ad (ak P 192 b 3) λaJ=>ad (ah P a 190 aJ) λaK=>ad (aF P 190 aK (I J 1)) λaL=>ad (ak P 235 aL 6) λaM=>ad (ah P a 46 aM) λaO=>ad (al P .eql 46 U aI aO) λaP=>dr G N d f g b h i aP a) (ad (al P .eql 3 V e (I J 5)) λs=>ax (D s) (jM G N d f g b h i (Z V) e s a) (ad (al P .eql 3 V e (I J 6)) λaQ=>jM G N d f g b h i (Z V) e aQ a)))))
def MJ(G:ai)(N:Nat):∀C H,aE P G N (af (af (af (af (af (af (af (aG Tryz.f162)))))))) (ay Tryz.f162) [] (ay Tryz.f162) C H=gV G N (C 0) (C 3) (C 4) (C 5) (C 6) (C 7) H:=by
 refine aH ((aq j ((aq j ((aq j (MK G N) ((aq j ((aT j ((aq j ((bB j (aj _) ((aq j ((bB j (aj _) ((aq j ((bB j (aj _) ((aq j (MH G N) (aj _))))) (aj _))))) (aj _))))) (aj _))))) (aj _))))) (aj _))) (aj _))) λC H=> ?_
 delta gV;generalize jM G N=a;generalize dr G N=b;revert a b;refine id ?_;intro a b;kernel_rfl
def jN(G:ai)(N:Nat)(a:aa->aa->aa->aa->aa->aa->aa->ae->O)(b d:aa)(e f:aa)(g h c:aa)(H:ae):O:=ad (al P .add 3 V c (I J 1)) λi=>a b d e f g h i H
def MI(G:ai)(N:Nat)(a:aa->aa->aa->aa->aa->aa->aa->ae->O):∀C H,aE P G N (af (af (an (an (af (an (af (af (af (af (af (af (aG Tryz.f162))))))))))))) (λC H=>a (C 0) (C 3) (C 4) (C 5) (C 6) (C 7) (C 10) H) [(0,(λC H=>gV G N (C 0) (C 3) (C 4) (C 5) (C 6) (C 7) H))] (ay Tryz.f162) C H=jN G N a (C 0) (C 3) (C 4) (C 5) (C 6) (C 7) (C 10) H:=by
 refine aH (aj _) λC H=> ?_
 delta jN;kernel_rfl
def tK(G:ai)(N:Nat)(t:aa->aa->aa->aa->aa->aa->aa->ae->O)(f d:aa)(o e:aa)(p s h:aa)(H:ae):O:=ad (ak P 192 d 3) λu=>ad (ah P H 190 u) λv=>aZ P .len [190] [v] H λw=>ad (al P .lss 3 U h w) λr=>ao r V H (aM f) λx m=>ao r V m (λq=>bg m (G 120 [x] m) q) λy a=>ad (aN r (D y) (D (Z U))) λz=>ax (D z) (ad (ak P 192 d 0) λA=>ad (ah P a 3 A) λB=>ad (al P .eql 3 V B (I J 9)) λC=>ax (D C) (ad (ak P 192 d 3) λE=>ad (ah P a 190 E) λF=>ad (aF P 190 F h) λK=>ad (ah P a 235 K) λL=>au a (G 211 [f,L] a) λM b=>ad (ak P 192 e 3) λi=>ad (ah P b 190 i) λj=>aO b (bl P (b).next 190 1 [(0,M)]) λQ c=>au c (bJ P c [190,190] j Q) λR g=>ad (ak P 192 e 3) λS=>aB g (aA P g 190 S R) λn=>bif ((aJ (ah P a 190 i) j&&(aJ (ah P b 190 i) j&&(aJ (ah P c 190 i) j&&V)))&&V)then(jN G N t f d o e p s h n)else Y) (ad (ak P 192 d 3) λT=>ad (ah P a 190 T) λW=>ad (aF P 190 W h) λab=>ad (ah P a 235 ab) λaf=>au a (G 212 [f,af] a) λaj b=>ad (ak P 192 e 3) λk=>ad (ah P b 190 k) λl=>aO b (bl P (b).next 190 1 [(0,aj)]) λam c=>au c (bJ P c [190,190] l am) λan g=>ad (ak P 192 e 3) λap=>aB g (aA P g 190 ap an) λn=>bif ((aJ (ah P a 190 k) l&&(aJ (ah P b 190 k) l&&(aJ (ah P c 190 k) l&&V)))&&V)then(jN G N t f d o e p s h n)else Y)) (gV G N f d o e p s a)
def jT(G:ai)(N:Nat):Nat->aa->aa->aa->aa->aa->aa->aa->ae->O
 |0,_,_,_,_,_,_,_,_=>Y
 |n+1,a,c,d,e,f,g,b,H=>tK G N (jT G N n) a c d e f g b H
def MD(G:ai)(N:Nat)(a:aa->aa->aa->aa->aa->aa->aa->ae->O):∀C H,aE P G N (an (an (af (an (af (af (af (af (af (af (aG Tryz.f162))))))))))) (λC H=>a (C 0) (C 3) (C 4) (C 5) (C 6) (C 7) (C 10) H) [(0,(λC H=>gV G N (C 0) (C 3) (C 4) (C 5) (C 6) (C 7) H))] (ay Tryz.f162) C H=tK G N a (C 0) (C 3) (C 4) (C 5) (C 6) (C 7) (C 10) H:=by
 refine aH ((aq j ((aq j (MI G N a) (aj _))) (aj _))) λC H=> ?_
 delta tK;generalize gV G N=b;generalize jN G N a=c;revert b c;refine id ?_;intro b c;kernel_rfl
def jL(G:ai)(N:Nat)(a b:aa)(c d:aa)(e f:aa)(H:ae):O:=jT G N N a b c d e f (I J 0) H
def MG(G:ai)(N:Nat):∀C H,aE P G N (af (af (af (af (af (af (aG Tryz.f162))))))) (ay Tryz.f162) [] (ay Tryz.f162) C H=jL G N (C 0) (C 3) (C 4) (C 5) (C 6) (C 7) H:=by
 refine aH ((aq j (MJ G N) ((aq j ((aT j ((a8 (k:=λm C H=>jT G N m (C 0) (C 3) (C 4) (C 5) (C 6) (C 7) (C 10) H) j (λC H=>j) (λm=>MD G N (jT G N m)))))) (aj _))))) λC H=> ?_
 delta jL;generalize jT G N N=a;revert a;refine id ?_;intro a;kernel_rfl
def oN(G:ai)(N:Nat)(f C:aa)(H:ae):O:=aO H (bo (H).next C) λa z=>a7 z [I J 0,X [],X [],I J 0,aa.ar,aa.ar,aa.ar,I J 0,I J 0] λg m=>ad (ak P 192 a 0) λE=>ad (ah P m 3 E) λF=>ad (ak P 192 a 6) λK=>ad (ah P m 3 K) λL=>ad (bh P 192 [(0,F),(6,L)]) λM=>a7 m [I J 0,X [],X [],I J 0,aa.ar,aa.ar,aa.ar,I J 0,I J 0] λh s=>aB s (aA P s 192 h M) λn=>ad (ah P n 192 a) λQ=>au n (G 209 [f,Q] n) λR k=>ad (bt .not R) λS=>ax (D S) (ad (ak P 192 a 6) λT=>ad (ah P k 3 T) λW=>au k (G 210 [f,W] k) λaK e=>ad (ah P e 192 h) λab=>aB e (aA P e 192 g ab) λi=>ad (ah P i 192 g) λr=>D (r,i)) (a7 k [I J 0,I J 0,I J 0] λp e=>ad (ak P 192 a 0) λaf=>ad (ah P e 3 af) λaj=>ad (al P .eql 3 V aj (I J 1)) λl=>ao l U e (az (ak P 192 a 0)) λam i=>ao l U i (qr (ah P i 3 am)) λan B=>ao l U B (az (al P .eql 3 V an (I J 2))) λap c=>ad (aN l (D (Z V)) (D ap)) λo=>ax (D o) (ad (aL f) λaq=>ad (ak P 184 aq 1) λt=>ad (ah P c 57 t) λu=>ad (ak P 192 a 2) λv=>ad (ah P c 121 v) λw=>au c (G 161 [u,w] c) λx A=>ad (bG x 0) λav=>a7 A [I J 0,I J 0,I J 0] λy q=>aB q (aA P q 46 y av) λd=>ad (bG x 1) λaw=>bif ((aJ (ah P c 57 t) u&&V)&&((aJ (ah P c 121 v) w&&V)&&V))then(ad (bt .not aw) λay=>ax (D ay) (ad (ak P 192 a 6) λaC=>ad (ah P d 3 aC) λaD=>au d (G 210 [f,aD] d) λaM b=>ad (ah P b 192 h) λaE=>aB b (aA P b 192 g aE) λj=>ad (ah P j 192 g) λr=>D (r,j)) (ad (ah P d 46 y) λaF=>aB d (aA P d 46 p aF) λb=>ad (ak P 192 a 2) λaG=>ad (ah P b 121 aG) λaH=>ad (ak P 192 h 2) λaI=>aB b (aA P b 121 aI aH) λj=>jL G N f a g h p o j))else Y) (jL G N f a g h p o c))
def MF(G:ai)(N:Nat)(b:aa)(c:aa)(H:ae):aD Tryz.f162 G N (aP [b,c]) H=oN G N b c H:=by
 refine aS (A:=aD Tryz.f162 G N) ((aq j ((aq j ((aq j ((aq j ((aq j ((aq j (MG G N) (aj _))) (aj _))) (aj _))) (aj _))) (aj _))) (aj _))) ?_;delta oN;generalize jL G N=a;revert a;refine id ?_;intro a;kernel_rfl
def jV(G:ai)(N:Nat)(f e:aa)(H:ae):O:=ad (ak P 235 e 0) λz=>ad (ah P H 3 z) λA=>ad (al P .eql 3 V A (I J 4)) λd=>ao d V H (az (ak P 235 e 7)) λB g=>ao d V g (qr (ah P g 3 B)) λC s=>ao d V s (az (al P .geq 3 V C (I J 0))) λE u=>ad (aN d (D E) (D (Z U))) λa=>ao a V u (aM f) λF v=>ao a V v (az (aL F)) λK w=>ao a V w (az (ak P 188 K 0)) λL k=>ao a V k (qr (ah P k 104 L)) λM x=>ao a V x (az (ak P 235 e 7)) λQ l=>ao a V l (qr (ah P l 3 Q)) λR y=>ao a V y (az (aF P 104 M R)) λS h=>ao a V h (qr (ah P h 4 S)) λT m=>ao a V m (az (bt .not T)) λW n=>ad (aN a (D W) (D (Z U))) λb=>ao b V n (aM f) λab o=>ao b V o (az (aL ab)) λaf p=>ao b V p (az (ak P 188 af 1)) λaj q=>ao b V q (az (ak P 65 aj 0)) λam i=>ao b V i (qr (ah P i 63 am)) λan r=>ao b V r (az (al P .eql 63 V an (I J 0))) λap c=>ad (aN b (D ap) (D (Z U))) λaq=>ax (D aq) (ad (ak P 235 e 5) λav=>ad (ah P c 3 av) λaw=>au c (G 159 [aw] c) λay j=>ad (aL f) λaC=>ad (ak P 188 aC 1) λaD=>aB j (aA P j 65 aD ay) λt=>D (.tuple [],t)) (D (.tuple [],c))
def MU(G:ai)(N:Nat):∀C H,aE P G N (af (af (aG Tryz.f163))) (ay Tryz.f163) [] (ay Tryz.f163) C H=jV G N (C 0) (C 3) H:=by
 refine aH (aj _) λC H=> ?_
 delta jV;kernel_rfl
def tM(G:ai)(N:Nat)(d:aa->aa->aa->ae->O)(b a c:aa)(H:ae):O:=ad (ak P 235 a 4) λk=>ad (ah P H 190 k) λl=>aZ P .len [190] [l] H λm=>ad (al P .lss 3 U c m) λn=>ax (D n) (ad (ak P 235 a 4) λg=>ad (ah P H 190 g) λh=>ad (aF P 190 h c) λi=>ad (ah P H 235 i) λj=>au H (G 163 [b,j] H) λo e=>ad (al P .add 3 V c (I J 1)) λf=>d b a f e) (jV G N b a H)
def jW(G:ai)(N:Nat):Nat->aa->aa->aa->ae->O
 |0,_,_,_,_=>Y
 |n+1,a,b,c,H=>tM G N (jW G N n) a b c H
def MS(G:ai)(N:Nat)(b:aa->aa->aa->ae->O):∀C H,aE P G N (an (an (af (an (af (aG Tryz.f163)))))) (λC H=>b (C 0) (C 3) (C 4) H) [(0,(λC H=>jV G N (C 0) (C 3) H))] (ay Tryz.f163) C H=tM G N b (C 0) (C 3) (C 4) H:=by
 refine aH (aj _) λC H=> ?_
 delta tM;generalize jV G N=a;revert a;refine id ?_;intro a;kernel_rfl
def oO(G:ai)(N:Nat)(b c:aa)(H:ae):O:=aO H (bo (H).next c) λd a=>jW G N N b d (I J 0) a
def MT(G:ai)(N:Nat)(b:aa)(c:aa)(H:ae):aD Tryz.f163 G N (aP [b,c]) H=oO G N b c H:=by
 refine aS (A:=aD Tryz.f163 G N) ((aq j ((aq j (MU G N) ((aq j ((aT j ((a8 (k:=λm C H=>jW G N m (C 0) (C 3) (C 4) H) j (λC H=>j) (λm=>MS G N (jW G N m)))))) (aj _))))) (aj _))) ?_;delta oO;generalize jW G N N=a;revert a;refine id ?_;intro a;kernel_rfl
def tN(G:ai)(N:Nat)(c:aa->aa->ae->O)(a b:aa)(H:ae):O:=ad (aL a) λj=>ad (ak P 188 j 0) λk=>ad (ah P H 104 k) λl=>aZ P .len [104] [l] H λm=>ad (al P .lss 3 U b m) λn=>ax (D n) (ad (aL a) λf=>ad (ak P 188 f 0) λg=>ad (ah P H 104 g) λh=>ad (aF P 104 h b) λi=>aB H (aA P H 4 i (Z V)) λd=>ad (al P .add 3 V b (I J 1)) λe=>c a e d) (D (.tuple [],H))
def jX(G:ai)(N:Nat):Nat->aa->aa->ae->O
 |0,_,_,_=>Y
 |n+1,a,b,H=>tN G N (jX G N n) a b H
def MV(G:ai)(N:Nat)(a:aa->aa->ae->O):∀C H,aE P G N (an (an (af (aG Tryz.f164)))) (λC H=>a (C 0) (C 2) H) [(0,(ay Tryz.f164))] (ay Tryz.f164) C H=tN G N a (C 0) (C 2) H:=by
 refine aH (aj _) λC H=> ?_
 delta tN;kernel_rfl
def oP(G:ai)(N:Nat)(a:aa)(H:ae):O:=jX G N N a (I J 0) H
def MW(G:ai)(N:Nat)(b:aa)(H:ae):aD Tryz.f164 G N (aP [b]) H=oP G N b H:=by
 refine aS (A:=aD Tryz.f164 G N) ((aq j ((aT j ((a8 (k:=λm C H=>jX G N m (C 0) (C 2) H) j (λC H=>j) (λm=>MV G N (jX G N m)))))) (aj _))) ?_;delta oP;generalize jX G N N=a;revert a;refine id ?_;intro a;kernel_rfl
def dS(G:ai)(c E:aa)(H:ae):O:=ad (ak P 192 c 3) λj=>ad (ah P H 190 j) λk=>aZ P .len [190] [k] H λl=>ad (al P .neq 3 U l E) λm=>ax (D m) (D ((Z U),H)) (ad (ak P 192 c 0) λn=>ad (ah P H 3 n) λo=>ad (al P .eql 3 V o (I J 4)) λp=>ax (D p) (ad (ak P 192 c 3) λq=>ad (ah P H 190 q) λr=>ad (aF P 190 r (I J 0)) λs=>ad (ak P 235 s 0) λt=>ad (ah P H 3 t) λu=>ad (al P .eql 3 V u (I J 5)) λa=>ao a U H (az (ak P 192 c 3)) λv d=>ao a U d (qr (ah P d 190 v)) λw f=>ao a U f (az (aF P 190 w (I J 0))) λx g=>ao a U g (az (ak P 235 x 0)) λy e=>ao a U e (qr (ah P e 3 y)) λz h=>ao a U h (az (al P .eql 3 V z (I J 6))) λA i=>ad (aN a (D (Z V)) (D A)) λB=>D (B,i)) (ad (ak P 192 c 0) λC=>ad (ah P H 3 C) λF=>ad (al P .neq 3 V F (I J 9)) λb=>ao b U H (az (ak P 192 c 3)) λK d=>ao b U d (qr (ah P d 190 K)) λL f=>ao b U f (az (aF P 190 L (I J 0))) λM g=>ao b U g (az (ak P 235 M 0)) λN e=>ao b U e (qr (ah P e 3 N)) λQ h=>ao b U h (az (al P .eql 3 V Q (I J 7))) λR i=>ad (aN b (D (Z V)) (D R)) λS=>D (S,i)))
def Pe(G:ai)(N:Nat):∀C H,aE P G N (af (af (af (aG Tryz.f209)))) (ay Tryz.f209) [] (ay Tryz.f209) C H=dS G (C 3) (C 5) H:=by
 refine aH (aj _) λC H=> ?_
 delta dS;kernel_rfl
def ez(G:ai)(b c a:aa)(H:ae):O:=ax (D a) (dS G b c H) (D ((Z U),H))
def Pf(G:ai)(N:Nat):∀C H,aE P G N (af (af (af (af (af (af (af (an (af (an (af (af (aG Tryz.f209))))))))))))) (λC H=>dS G (C 3) (C 5) H) [(0,(λC H=>dS G (C 3) (C 5) H))] (ay Tryz.f209) C H=ez G (C 3) (C 5) (C 20) H:=by
 refine aH (aj _) λC H=> ?_
 delta ez;generalize dS G=a;revert a;refine id ?_;intro a;kernel_rfl
def pC(G:ai)(i j:aa)(H:ae):O:=aO H (bo (H).next j) λb a=>ad (ak P 192 b 0) λs=>ad (ah P a 3 s) λc=>ad (al P .eql 3 V c (I J 1)) λt=>ax (D t) (dS G b (I J 0) a) (ad (al P .eql 3 V c (I J 4)) λk=>ax (D k) (dS G b (I J 2) a) (ad (al P .eql 3 V c (I J 7)) λl=>ax (D l) (ad (aL i) λm=>ad (ak P 184 m 2) λn=>ad (ak P 143 n 2) λo=>ad (ah P a 4 o) λp=>ad (bt .not p) λq=>ax (D q) (dS G b (I J 0) a) (dS G b (I J 1) a)) (ad (al P .eql 3 V c (I J 2)) λd=>ax (D d) (ez G b (I J 1) d a) (ad (al P .eql 3 V c (I J 3)) λe=>ax (D e) (ez G b (I J 1) e a) (ad (al P .eql 3 V c (I J 5)) λf=>ax (D f) (ez G b (I J 1) f a) (ad (al P .eql 3 V c (I J 6)) λg=>ax (D g) (ez G b (I J 1) g a) (ad (al P .eql 3 V c (I J 8)) λh=>ax (D h) (ez G b (I J 1) h a) (ad (al P .eql 3 V c (I J 9)) λr=>ez G b (I J 1) r a))))))))
def Pd(G:ai)(N:Nat)(c:aa)(d:aa)(H:ae):aD Tryz.f209 G N (aP [c,d]) H=pC G c d H:=by
 refine aS (A:=aD Tryz.f209 G N) ((aq j ((aq j ((aq j (Pe G N) ((aq j ((aT j ((aq j ((bB j (aj _) ((aq j ((bB j (aj _) ((aq j ((bB j (aj _) ((aq j (Pf G N) (aj _))))) (aj _))))) (aj _))))) (aj _))))) (aj _))))) (aj _))) (aj _))) ?_;delta pC;generalize ez G=a;generalize dS G=b;revert a b;refine id ?_;intro a b;kernel_rfl
def pD(G:ai)(c e:aa)(H:ae):O:=au H (G 120 [c] H) λg a=>ax (D g) (au a (G 159 [e] a) λh b=>ad (aL c) λi=>ad (ak P 184 i 4) λf=>aB b (aA P b 65 f h) λd=>D (.tuple [],d)) (D (.tuple [],a))
def Pn(G:ai)(N:Nat)(a:aa)(b:aa)(H:ae):aD Tryz.f210 G N (aP [a,b]) H=pD G a b H:=by
 refine aS (A:=aD Tryz.f210 G N) (aj _) ?_;delta pD;kernel_rfl
def ld(G:ai)(N:Nat)(d e:aa)(b f g:aa)(H:ae):O:=ad (bt .not g) λh=>ax (D h) (ad (ak P 235 e 5) λi=>ad (ah P H 3 i) λj=>au H (G 210 [d,j] H) λl a=>aB a (aA P a 235 b (.agg [I J 0,I J 0,X [],X [],I J 0,aa.ar,I J 0,I J 0,I J 0,I J 0,I J 0])) λc=>ad (ah P c 235 b) λr=>D (r,c)) (ad (ah P H 235 f) λk=>aB H (aA P H 235 b k) λa=>ad (ah P a 235 b) λr=>D (r,a))
def Pr(G:ai)(N:Nat):∀C H,aE P G N (af (af (af (af (af (af (af (af (aG Tryz.f211))))))))) (ay Tryz.f211) [] (ay Tryz.f211) C H=ld G N (C 0) (C 3) (C 4) (C 6) (C 8) H:=by
 refine aH (aj _) λC H=> ?_
 delta ld;kernel_rfl
def lb(G:ai)(N:Nat)(c d:aa)(e f:aa)(H:ae):O:=au H (G 120 [c] H) λg a=>ad (bt .not g) λh=>ax (D h) (aB a (aA P a 235 e (.agg [I J 0,I J 0,X [],X [],I J 0,aa.ar,I J 0,I J 0,I J 0,I J 0,I J 0])) λb=>ad (ah P b 235 e) λr=>D (r,b)) (ad (ak P 235 d 0) λi=>ad (ah P a 3 i) λj=>ad (al P .geq 3 V j (I J 12)) λk=>ax (D k) (au a (G 238 [c,f] a) λl b=>ld G N c d e f l b) (ad (ah P a 235 d) λm=>au a (G 239 [c,m,f] a) λn b=>ld G N c d e f n b))
def Pq(G:ai)(N:Nat):∀C H,aE P G N (af (af (af (af (af (aG Tryz.f211)))))) (ay Tryz.f211) [] (ay Tryz.f211) C H=lb G N (C 0) (C 3) (C 4) (C 6) H:=by
 refine aH ((aq j ((aq j ((aq j (Pr G N) (aj _))) (aj _))) (aj _))) λC H=> ?_
 delta lb;generalize ld G N=a;revert a;refine id ?_;intro a;kernel_rfl
def uG(G:ai)(N:Nat)(E:aa->aa->aa->aa->aa->ae->O)(e m:aa)(B n j:aa)(H:ae):O:=ad (ak P 235 m 4) λF=>ad (ah P H 190 F) λK=>aZ P .len [190] [K] H λL=>ad (al P .lss 3 U j L) λu=>ao u V H (aM e) λM s=>ao u V s (λq=>bg s (G 120 [M] s) q) λQ c=>ad (aN u (D Q) (D (Z U))) λR=>ax (D R) (ad (ak P 235 m 4) λh=>ad (ah P c 190 h) λv=>ad (aF P 190 v j) λi=>ad (ah P c 235 i) λw=>au c (G 212 [e,w] c) λx d=>ad (ak P 235 n 4) λg=>ad (ah P d 190 g) λa=>bH (aW P .empty .len [190] [a]) (aW P d .len [190] [a]) λf=>hk (f.heap d) (D (.ag ((f.heap d)).next 0 1 11 (D 1),.row U 11 [[I J 0,I J 0,X [],X [],I J 0,aa.ar,I J 0,I J 0,I J 0,I J 0,I J 0]])) λz b A=>au A (bJ P A [190,190] a z) λo k=>ad (aF P 190 o f.val) λp=>ed k (aA P k 235 p x) λy l=>ad (ak P 235 n 4) λr=>ed l (aA P l 190 r o) λC t=>bif xR p r&&m6 [0,1,0,0,8,0,56,120,252,3,0,2047,4095,8191,4095,20479] [11] [⟨2,.pure e,λH=>Y⟩,⟨3,.pure h,λH=>Y⟩,⟨4,.read v,λH=>ah P H 190 h⟩,⟨5,.pure j,λH=>Y⟩,⟨6,.pure i,λH=>Y⟩,⟨7,.read w,λH=>ah P H 235 i⟩,⟨8,.br x d,λH=>Y⟩,⟨0,.pure g,λH=>Y⟩,⟨1,.read a,λH=>ah P H 190 g⟩,⟨9,f,λH=>aW P H .len [190] [a]⟩,⟨10,.new z b,λH=>Y⟩,⟨11,.br o k,λH=>Y⟩,⟨12,.pure p,λH=>Y⟩,⟨13,.br y l,λH=>Y⟩,⟨14,.pure r,λH=>Y⟩,⟨15,.br C t,λH=>Y⟩] c [⟨2,.pure e,λH=>Y⟩,⟨3,.pure h,λH=>Y⟩,⟨4,.read v,λH=>ah P H 190 h⟩,⟨5,.pure j,λH=>Y⟩,⟨6,.pure i,λH=>Y⟩,⟨7,.read w,λH=>ah P H 235 i⟩,⟨8,.br x d,λH=>Y⟩,⟨0,.pure g,λH=>Y⟩,⟨1,.read a,λH=>ah P H 190 g⟩,⟨9,f,λH=>aW P H .len [190] [a]⟩,⟨10,.new z b,λH=>Y⟩,⟨11,.br o k,λH=>Y⟩,⟨12,.pure p,λH=>Y⟩,⟨13,.br y l,λH=>Y⟩,⟨14,.pure r,λH=>Y⟩,⟨15,.br C t,λH=>Y⟩]then(ad (al P .add 3 V j (I J 1)) λS=>E e m B n S t)else Y) (lb G N e m B n c)
def lf(G:ai)(N:Nat):Nat->aa->aa->aa->aa->aa->ae->O
 |0,_,_,_,_,_,_=>Y
 |n+1,a,b,c,d,e,H=>uG G N (lf G N n) a b c d e H
def Po(G:ai)(N:Nat)(b:aa->aa->aa->aa->aa->ae->O):∀C H,aE P G N (an (an (af (an (af (af (af (af (aG Tryz.f211))))))))) (λC H=>b (C 0) (C 3) (C 4) (C 6) (C 7) H) [(0,(λC H=>lb G N (C 0) (C 3) (C 4) (C 6) H))] (ay Tryz.f211) C H=uG G N b (C 0) (C 3) (C 4) (C 6) (C 7) H:=by
 refine aH (aj _) λC H=> ?_
 delta uG;generalize lb G N=a;revert a;refine id ?_;intro a;kernel_rfl
def pE(G:ai)(N:Nat)(t af:aa)(H:ae):O:=aO H (bo (H).next af) λa w=>a7 w [I J 0,I J 0,X [],X [],I J 0,aa.ar,I J 0,I J 0,I J 0,I J 0,I J 0] λl j=>ad (ak P 235 a 0) λaZ=>ad (ah P j 3 aZ) λaj=>au j (G 237 [aj] j) λk R=>ad (al P .eql 3 V k (I J (-2))) λf=>ao f U R (aM k) λam S=>ao f U S (az (al P .geq 3 V am (I J 0))) λan T=>ao f U T (aM an) λd W=>ao d V W (az (ak P 235 a 4)) λap p=>ao d V p (qr (ah P p 190 ap)) λu s=>ao d V s (λq=>bH (aW P .empty .len [190] [u]) (aW P s .len [190] [u]) q) λaq ab=>ao d V ab (aM k) λav x=>ao d V x (az (al P .neq 3 U aq av)) λaw y=>ao f U y (az (aN d (D aw) (D (Z U)))) λay z=>ad (aN f (D (Z V)) (D ay)) λb=>ao b U z (az (ak P 235 a 0)) λaC m=>ao b U m (qr (ah P m 3 aC)) λaD A=>ao b U A (az (al P .eql 3 V aD (I J 2))) λaE B=>ao b U B (aM aE) λh C=>ao h V C (az (ak P 235 a 1)) λaF n=>ao h V n (qr (ah P n 3 aF)) λaG E=>ao h V E (az (al P .neq 3 V aG (I J 0))) λaH F=>ao b U F (az (aN h (D aH) (D (Z U)))) λaI K=>ao b U K (aM aI) λi L=>ao i V L (az (ak P 235 a 1)) λaJ o=>ao i V o (qr (ah P o 3 aJ)) λaK M=>ao i V M (az (al P .neq 3 V aK (I J 1))) λaL Q=>ao b U Q (az (aN i (D aL) (D (Z U)))) λaP c=>ad (aN b (D (Z V)) (D aP)) λaQ=>ax (D aQ) (ad (ak P 235 a 5) λaR=>ad (ah P c 3 aR) λaS=>au c (G 210 [t,aS] c) λa0 e=>aB e (aA P e 235 l (.agg [I J 0,I J 0,X [],X [],I J 0,aa.ar,I J 0,I J 0,I J 0,I J 0,I J 0])) λg=>ad (ah P g 235 l) λr=>D (r,g)) (ad (ak P 235 a 0) λaT=>ad (ah P c 3 aT) λaU=>ad (ak P 235 a 5) λaV=>ad (ah P c 3 aV) λaX=>ad (bh P 235 [(0,aU),(5,aX)]) λaY=>a7 c [I J 0,I J 0,X [],X [],I J 0,aa.ar,I J 0,I J 0,I J 0,I J 0,I J 0] λv e=>aB e (aA P e 235 v aY) λg=>lf G N N t a l v (I J 0) g)
def Pp(G:ai)(N:Nat)(b:aa)(c:aa)(H:ae):aD Tryz.f211 G N (aP [b,c]) H=pE G N b c H:=by
 refine aS (A:=aD Tryz.f211 G N) ((aq j ((aq j ((aq j ((aq j ((aq j (Pq G N) ((aq j ((aT j ((a8 (k:=λm C H=>lf G N m (C 0) (C 3) (C 4) (C 6) (C 7) H) j (λC H=>j) (λm=>Po G N (lf G N m)))))) (aj _))))) (aj _))) (aj _))) (aj _))) (aj _))) ?_;delta pE;generalize lf G N N=a;revert a;refine id ?_;intro a;kernel_rfl
def lg(G:ai)(b d:aa)(H:ae):O:=ad (ah P H 235 d) λc=>aB H (aA P H 235 b c) λa=>ad (ah P a 235 b) λr=>D (r,a)
def Pt(G:ai)(N:Nat):∀C H,aE P G N (af (af (af (aG Tryz.f212)))) (ay Tryz.f212) [] (ay Tryz.f212) C H=lg G (C 4) (C 5) H:=by
 refine aH (aj _) λC H=> ?_
 delta lg;kernel_rfl
def pF(G:ai)(e q:aa)(H:ae):O:=aO H (bo (H).next q) λi k=>a7 k [I J 0,I J 0,X [],X [],I J 0,aa.ar,I J 0,I J 0,I J 0,I J 0,I J 0] λj d=>ad (ah P d 235 i) λy=>au d (G 211 [e,y] d) λz m=>a7 m [I J 0,I J 0,X [],X [],I J 0,aa.ar,I J 0,I J 0,I J 0,I J 0,I J 0] λc f=>aB f (aA P f 235 c z) λg=>au g (G 120 [e] g) λa n=>ao a V n (az (ak P 235 c 6)) λr h=>ao a V h (qr (ah P h 46 r)) λs o=>ao a V o (aM (.agg [I J 0,I J 0,I J 0])) λt p=>ao a V p (az (al P .eql 46 U s t)) λu b=>ad (aN a (D u) (D (Z U))) λv=>ax (D v) (ad (ak P 235 i 5) λw=>ad (ah P b 3 w) λx=>au b (G 210 [e,x] b) λA l=>lg G j c l) (lg G j c b)
def Ps(G:ai)(N:Nat)(b:aa)(c:aa)(H:ae):aD Tryz.f212 G N (aP [b,c]) H=pF G b c H:=by
 refine aS (A:=aD Tryz.f212 G N) ((aq j ((aq j ((aq j (Pt G N) (aj _))) (aj _))) (aj _))) ?_;delta pF;generalize lg G=a;revert a;refine id ?_;intro a;kernel_rfl
def lj(G:ai)(N:Nat)(b:aa)(H:ae):O:=aB H (aA P H 46 b (.agg [I J 0,I J 0,I J 0])) λa=>ad (ah P a 46 b) λr=>D (.tuple [I J 0,r,Z U],a)
def Py(G:ai)(N:Nat):∀C H,aE P G N (af (af (af (aG Tryz.f213)))) (ay Tryz.f213) [] (ay Tryz.f213) C H=lj G N (C 5) H:=by
 refine aH (aj _) λC H=> ?_
 delta lj;kernel_rfl
def uH(G:ai)(N:Nat)(f:aa->aa->aa->aa->ae->O)(b e:aa)(c a:aa)(H:ae):O:=ad (aL b) λg=>ad (ak P 184 g 0) λh=>ad (ak P 132 h 1) λi=>ad (ah P H 93 i) λj=>aZ P .len [93] [j] H λk=>ad (al P .lss 3 U a k) λl=>ax (D l) (ad (aL b) λn=>ad (ak P 184 n 0) λo=>ad (ak P 132 o 1) λp=>ad (ah P H 93 p) λq=>ad (aF P 93 q a) λs=>ad (ak P 98 s 0) λt=>ad (ah P H 9 t) λu=>ad (al P .eql 9 U u e) λv=>ax (D v) (ad (al P .sub 3 V (I J (-1)) a) λw=>ad (aL b) λx=>ad (ak P 184 x 0) λy=>ad (ak P 132 y 1) λz=>ad (ah P H 93 z) λA=>ad (aF P 93 A a) λB=>ad (ak P 98 B 1) λC=>ad (ah P H 46 C) λE=>aB H (aA P H 46 c E) λd=>ad (ah P d 46 c) λr=>D (.tuple [w,r,Z V],d)) (ad (al P .add 3 V a (I J 1)) λm=>f b e c m H)) (lj G N c H)
def lk(G:ai)(N:Nat):Nat->aa->aa->aa->aa->ae->O
 |0,_,_,_,_,_=>Y
 |n+1,a,b,c,d,H=>uH G N (lk G N n) a b c d H
def Pu(G:ai)(N:Nat)(b:aa->aa->aa->aa->ae->O):∀C H,aE P G N (an (an (af (an (af (af (aG Tryz.f213))))))) (λC H=>b (C 0) (C 1) (C 5) (C 8) H) [(2,(λC H=>lj G N (C 5) H))] (ay Tryz.f213) C H=uH G N b (C 0) (C 1) (C 5) (C 8) H:=by
 refine aH (aj _) λC H=> ?_
 delta uH;generalize lj G N=a;revert a;refine id ?_;intro a;kernel_rfl
def lh(G:ai)(N:Nat)(a b c:aa)(H:ae):O:=lk G N N a b c (I J 0) H
def Px(G:ai)(N:Nat):∀C H,aE P G N (af (af (aG Tryz.f213))) (ay Tryz.f213) [] (ay Tryz.f213) C H=lh G N (C 0) (C 1) (C 5) H:=by
 refine aH ((aq j (Py G N) ((aq j ((aT j ((a8 (k:=λm C H=>lk G N m (C 0) (C 1) (C 5) (C 8) H) j (λC H=>j) (λm=>Pu G N (lk G N m)))))) (aj _))))) λC H=> ?_
 delta lh;generalize lk G N N=a;revert a;refine id ?_;intro a;kernel_rfl
def uI(G:ai)(N:Nat)(f:aa->aa->aa->aa->ae->O)(a d:aa)(c b:aa)(H:ae):O:=ad (aL a) λg=>ad (ak P 184 g 3) λh=>ad (ah P H 93 h) λi=>aZ P .len [93] [i] H λj=>ad (al P .lss 3 U b j) λk=>ax (D k) (ad (aL a) λm=>ad (ak P 184 m 3) λn=>ad (ah P H 93 n) λo=>ad (aF P 93 o b) λp=>ad (ak P 98 p 0) λq=>ad (ah P H 9 q) λs=>ad (al P .eql 9 U s d) λt=>ax (D t) (ad (aL a) λu=>ad (ak P 184 u 3) λv=>ad (ah P H 93 v) λw=>ad (aF P 93 w b) λx=>ad (ak P 98 x 1) λy=>ad (ah P H 46 y) λz=>aB H (aA P H 46 c z) λe=>ad (ah P e 46 c) λr=>D (.tuple [b,r,Z V],e)) (ad (al P .add 3 V b (I J 1)) λl=>f a d c l H)) (lh G N a d c H)
def ll(G:ai)(N:Nat):Nat->aa->aa->aa->aa->ae->O
 |0,_,_,_,_,_=>Y
 |n+1,a,b,c,d,H=>uI G N (ll G N n) a b c d H
def Pv(G:ai)(N:Nat)(b:aa->aa->aa->aa->ae->O):∀C H,aE P G N (an (an (af (an (af (aG Tryz.f213)))))) (λC H=>b (C 0) (C 1) (C 5) (C 7) H) [(0,(λC H=>lh G N (C 0) (C 1) (C 5) H))] (ay Tryz.f213) C H=uI G N b (C 0) (C 1) (C 5) (C 7) H:=by
 refine aH (aj _) λC H=> ?_
 delta uI;generalize lh G N=a;revert a;refine id ?_;intro a;kernel_rfl
def pG(G:ai)(N:Nat)(b c:aa)(H:ae):O:=a7 H [I J 0,I J 0,I J 0] λd a=>ll G N N b c d (I J 0) a
def Pw(G:ai)(N:Nat)(b:aa)(c:aa)(H:ae):aD Tryz.f213 G N (aP [b,c]) H=pG G N b c H:=by
 refine aS (A:=aD Tryz.f213 G N) ((aq j ((aq j (Px G N) ((aq j ((aT j ((a8 (k:=λm C H=>ll G N m (C 0) (C 1) (C 5) (C 7) H) j (λC H=>j) (λm=>Pv G N (ll G N m)))))) (aj _))))) (aj _))) ?_;delta pG;generalize ll G N N=a;revert a;refine id ?_;intro a;kernel_rfl
def pH(G:ai)(H:ae):O:=a7 H [I J 0,I J 0,I J 0] λc a=>aB a (aA P a 46 c (.agg [I J 2,I J 0,I J 0])) λb=>ad (ah P b 46 c) λr=>D (r,b)
def Pz(G:ai)(N:Nat)(H:ae):aD Tryz.f214 G N (aP []) H=pH G H:=by
 refine aS (A:=aD Tryz.f214 G N) (aj _) ?_;delta pH;kernel_rfl
def pI(G:ai)(H:ae):O:=a7 H [I J 0,I J 0,I J 0] λc a=>aB a (aA P a 46 c (.agg [I J 1,I J 0,I J 0])) λb=>ad (ah P b 46 c) λr=>D (r,b)
def PA(G:ai)(N:Nat)(H:ae):aD Tryz.f215 G N (aP []) H=pI G H:=by
 refine aS (A:=aD Tryz.f215 G N) (aj _) ?_;delta pI;kernel_rfl
def dZ(G:ai)(H:ae):O:=some ((I J (-2)),H)
def Qi(G:ai)(N:Nat):∀C H,aE P G N (af (af (aG Tryz.f237))) (ay Tryz.f237) [] (ay Tryz.f237) C H=dZ G H:=by
 refine aH (aj _) λC H=> ?_
 delta dZ;kernel_rfl
def c7(G:ai)(a:aa)(H:ae):O:=ax (D a) (D ((I J 2),H)) (dZ G H)
def Ql(G:ai)(N:Nat):∀C H,aE P G N (af (af (af (af (af (af (af (an (af (an (af (aG Tryz.f237)))))))))))) (λC H=>dZ G H) [(0,(λC H=>dZ G H))] (ay Tryz.f237) C H=c7 G (C 19) H:=by
 refine aH (aj _) λC H=> ?_
 delta c7;generalize dZ G=a;revert a;refine id ?_;intro a;kernel_rfl
def e5(G:ai)(a m:aa)(H:ae):O:=ax (D m) (D ((I J 1),H)) (ad (al P .eql 3 V a (I J 7)) λn=>ax (D n) (D ((I J (-1)),H)) (ad (al P .eql 3 V a (I J 6)) λb=>ax (D b) (c7 G b H) (ad (al P .eql 3 V a (I J 14)) λc=>ax (D c) (c7 G c H) (ad (al P .eql 3 V a (I J 15)) λd=>ax (D d) (c7 G d H) (ad (al P .eql 3 V a (I J 16)) λe=>ax (D e) (c7 G e H) (ad (al P .eql 3 V a (I J 17)) λf=>ax (D f) (c7 G f H) (ad (al P .eql 3 V a (I J 18)) λg=>ax (D g) (c7 G g H) (ad (al P .eql 3 V a (I J 19)) λh=>ax (D h) (c7 G h H) (ad (al P .eql 3 V a (I J 20)) λi=>ax (D i) (c7 G i H) (ad (al P .eql 3 V a (I J 21)) λj=>ax (D j) (c7 G j H) (ad (al P .eql 3 V a (I J 22)) λk=>ax (D k) (c7 G k H) (ad (al P .eql 3 V a (I J 23)) λl=>ax (D l) (c7 G l H) (ad (al P .eql 3 V a (I J 24)) λo=>c7 G o H)))))))))))))
def Qk(G:ai)(N:Nat):∀C H,aE P G N (af (af (af (an (af (an (af (aG Tryz.f237)))))))) (λC H=>dZ G H) [(0,(λC H=>dZ G H))] (ay Tryz.f237) C H=e5 G (C 3) (C 11) H:=by
 refine aH ((bB j (aj _) ((aq j ((bB j (aj _) ((aq j (Ql G N) (aj _))))) (aj _))))) λC H=> ?_
 delta e5;generalize c7 G=a;revert a;refine id ?_;intro a;kernel_rfl
def eA(G:ai)(a g:aa)(H:ae):O:=ax (D g) (D ((I J 0),H)) (ad (al P .eql 3 V a (I J 5)) λb=>ax (D b) (e5 G a b H) (ad (al P .eql 3 V a (I J 9)) λc=>ax (D c) (e5 G a c H) (ad (al P .eql 3 V a (I J 10)) λd=>ax (D d) (e5 G a d H) (ad (al P .eql 3 V a (I J 12)) λe=>ax (D e) (e5 G a e H) (ad (al P .eql 3 V a (I J 13)) λf=>e5 G a f H)))))
def Qj(G:ai)(N:Nat):∀C H,aE P G N (af (an (af (an (af (aG Tryz.f237)))))) (λC H=>dZ G H) [(0,(λC H=>dZ G H))] (ay Tryz.f237) C H=eA G (C 3) (C 4) H:=by
 refine aH ((bB j (aj _) ((aq j (Qk G N) (aj _))))) λC H=> ?_
 delta eA;generalize e5 G=a;revert a;refine id ?_;intro a;kernel_rfl
def p5(G:ai)(a:aa)(H:ae):O:=ad (al P .eql 3 V a (I J 1)) λb=>ax (D b) (eA G a b H) (ad (al P .eql 3 V a (I J 2)) λc=>ax (D c) (eA G a c H) (ad (al P .eql 3 V a (I J 3)) λd=>ax (D d) (eA G a d H) (ad (al P .eql 3 V a (I J 4)) λe=>ax (D e) (eA G a e H) (ad (al P .eql 3 V a (I J 8)) λf=>ax (D f) (eA G a f H) (ad (al P .eql 3 V a (I J 11)) λg=>eA G a g H)))))
def Qh(G:ai)(N:Nat)(b:aa)(H:ae):aD Tryz.f237 G N (aP [b]) H=p5 G b H:=by
 refine aS (A:=aD Tryz.f237 G N) ((aq j ((aq j (Qi G N) ((aq j ((aT j ((aq j (Qj G N) (aj _))))) (aj _))))) (aj _))) ?_;delta p5;generalize eA G=a;revert a;refine id ?_;intro a;kernel_rfl
def d_(G:ai)(m i j:aa)(H:ae):O:=au H (G 214 [] H) λn h=>ad (aL m) λo=>ad (ak P 235 o 6) λp=>aB h (aA P h 46 p n) λd=>au d (G 214 [] d) λl a=>ad (ah P a 46 i) λk=>ad (al P .eql 46 U k l) λb=>aK b V (λq=>bg a (G 214 [] a) q) λc=>aK b V (qr (ah P (c.heap a) 46 j)) λe=>aK b V (az (al P .eql 46 U e.val c.val)) λf=>ad (aN b (D f.val) (D (Z U))) λg=>bif b3 [0,0,3,7,15,15,63,127,255] [1,2,3,5,6,7,8] [⟨1,.br l a,λH=>Y⟩,⟨0,.read k,λH=>ah P H 46 i⟩,⟨2,.pure b,λH=>Y⟩,⟨3,.pure b,λH=>Y⟩,⟨5,c,λH=>Y⟩,⟨4,e,λH=>ah P H 46 j⟩,⟨6,f,λH=>Y⟩,⟨7,.pure g,λH=>Y⟩,⟨8,.pure g,λH=>Y⟩] d then(D (g,(f.heap (e.heap (c.heap a)))))else Y
def Qo(G:ai)(N:Nat):∀C H,aE P G N (af (af (af (af (af (aG Tryz.f238)))))) (ay Tryz.f238) [] (ay Tryz.f238) C H=d_ G (C 1) (C 5) (C 6) H:=by
 refine aH (aj _) λC H=> ?_
 delta d_;kernel_rfl
def lH(G:ai)(c d:aa)(e f:aa)(H:ae):O:=ax (D f) (au H (G 214 [] H) λg b=>ad (aL c) λh=>ad (ak P 235 h 6) λi=>aB b (aA P b 46 i g) λa=>ad (ah P a 46 d) λj=>ad (ah P a 46 e) λk=>ad (al P .eql 46 U j k) λl=>D (l,a)) (d_ G c d e H)
def Qr(G:ai)(N:Nat):∀C H,aE P G N (af (af (af (af (af (an (af (an (af (af (af (af (aG Tryz.f238))))))))))))) (λC H=>d_ G (C 1) (C 5) (C 6) H) [(0,(λC H=>d_ G (C 1) (C 5) (C 6) H))] (ay Tryz.f238) C H=lH G (C 1) (C 5) (C 6) (C 66) H:=by
 refine aH (aj _) λC H=> ?_
 delta lH;generalize d_ G=a;revert a;refine id ?_;intro a;kernel_rfl
def lG(G:ai)(i d:aa)(e l p:aa)(H:ae):O:=ax (D p) (au H (G 214 [] H) λr k=>ad (aL i) λs=>ad (ak P 235 s 6) λt=>aB k (aA P k 46 t r) λf=>au f (G 215 [] f) λn a=>ad (ah P a 46 d) λm=>ad (al P .eql 46 U m n) λb=>aK b V (λq=>bg a (G 215 [] a) q) λc=>aK b V (qr (ah P (c.heap a) 46 e)) λg=>aK b V (az (al P .eql 46 U g.val c.val)) λh=>ad (aN b (D h.val) (D (Z U))) λj=>bif b3 [0,0,3,7,15,15,63,127,255] [1,2,3,5,6,7,8] [⟨1,.br n a,λH=>Y⟩,⟨0,.read m,λH=>ah P H 46 d⟩,⟨2,.pure b,λH=>Y⟩,⟨3,.pure b,λH=>Y⟩,⟨5,c,λH=>Y⟩,⟨4,g,λH=>ah P H 46 e⟩,⟨6,h,λH=>Y⟩,⟨7,.pure j,λH=>Y⟩,⟨8,.pure j,λH=>Y⟩] f then(D (j,(h.heap (g.heap (c.heap a)))))else Y) (ad (al P .eql 3 V l (I J 21)) λo=>ax (D o) (lH G i d e o H) (ad (al P .eql 3 V l (I J 22)) λu=>lH G i d e u H))
def Qq(G:ai)(N:Nat):∀C H,aE P G N (af (af (af (an (af (an (af (af (af (af (aG Tryz.f238))))))))))) (λC H=>d_ G (C 1) (C 5) (C 6) H) [(0,(λC H=>d_ G (C 1) (C 5) (C 6) H))] (ay Tryz.f238) C H=lG G (C 1) (C 5) (C 6) (C 31) (C 51) H:=by
 refine aH ((bB j (aj _) ((aq j (Qr G N) (aj _))))) λC H=> ?_
 delta lG;generalize lH G=a;revert a;refine id ?_;intro a;kernel_rfl
def eB(G:ai)(j e:aa)(f d p:aa)(H:ae):O:=ax (D p) (au H (G 215 [] H) λr l=>ad (aL j) λs=>ad (ak P 235 s 6) λt=>aB l (aA P l 46 t r) λg=>au g (G 215 [] g) λn a=>ad (ah P a 46 e) λm=>ad (al P .eql 46 U m n) λb=>aK b V (λq=>bg a (G 215 [] a) q) λc=>aK b V (qr (ah P (c.heap a) 46 f)) λh=>aK b V (az (al P .eql 46 U h.val c.val)) λi=>ad (aN b (D i.val) (D (Z U))) λk=>bif b3 [0,0,3,7,15,15,63,127,255] [1,2,3,5,6,7,8] [⟨1,.br n a,λH=>Y⟩,⟨0,.read m,λH=>ah P H 46 e⟩,⟨2,.pure b,λH=>Y⟩,⟨3,.pure b,λH=>Y⟩,⟨5,c,λH=>Y⟩,⟨4,h,λH=>ah P H 46 f⟩,⟨6,i,λH=>Y⟩,⟨7,.pure k,λH=>Y⟩,⟨8,.pure k,λH=>Y⟩] g then(D (k,(i.heap (h.heap (c.heap a)))))else Y) (ad (al P .eql 3 V d (I J 19)) λo=>ax (D o) (lG G j e f d o H) (ad (al P .eql 3 V d (I J 20)) λu=>lG G j e f d u H))
def Qp(G:ai)(N:Nat):∀C H,aE P G N (af (an (af (an (af (af (af (af (aG Tryz.f238))))))))) (λC H=>d_ G (C 1) (C 5) (C 6) H) [(0,(λC H=>d_ G (C 1) (C 5) (C 6) H))] (ay Tryz.f238) C H=eB G (C 1) (C 5) (C 6) (C 31) (C 32) H:=by
 refine aH ((bB j (aj _) ((aq j (Qq G N) (aj _))))) λC H=> ?_
 delta eB;generalize lG G=a;revert a;refine id ?_;intro a;kernel_rfl
def lF(G:ai)(b c d:aa)(H:ae):O:=ad (aL b) λj=>ad (ak P 235 j 0) λk=>ad (ah P H 3 k) λa=>ad (al P .eql 3 V a (I J 12)) λe=>ax (D e) (eB G b c d a e H) (ad (al P .eql 3 V a (I J 14)) λf=>ax (D f) (eB G b c d a f H) (ad (al P .eql 3 V a (I J 15)) λg=>ax (D g) (eB G b c d a g H) (ad (al P .eql 3 V a (I J 16)) λh=>ax (D h) (eB G b c d a h H) (ad (al P .eql 3 V a (I J 17)) λi=>ax (D i) (eB G b c d a i H) (ad (al P .eql 3 V a (I J 18)) λl=>eB G b c d a l H)))))
def Qn(G:ai)(N:Nat):∀C H,aE P G N (af (af (af (af (aG Tryz.f238))))) (ay Tryz.f238) [] (ay Tryz.f238) C H=lF G (C 1) (C 5) (C 6) H:=by
 refine aH ((aq j (Qo G N) ((aq j ((aT j ((aq j (Qp G N) (aj _))))) (aj _))))) λC H=> ?_
 delta lF;generalize eB G=a;revert a;refine id ?_;intro a;kernel_rfl
def p6(G:ai)(A b:aa)(H:ae):O:=ad (aL b) λy=>ad (ak P 235 y 4) λz=>ad (ah P H 190 z) λi=>ad (aF P 190 i (I J 0)) λj=>ad (ak P 235 j 6) λk=>ad (ah P H 46 k) λl=>a7 H [I J 0,I J 0,I J 0] λc e=>aB e (aA P e 46 c l) λf=>ad (ah P f 46 c) λm=>a7 f [I J 0,I J 0,I J 0] λd g=>aB g (aA P g 46 d m) λa=>ad (aL b) λn=>ad (ak P 235 n 4) λo=>ad (ah P a 190 o) λp=>aZ P .len [190] [p] a λq=>ad (al P .eql 3 V q (I J 2)) λr=>ax (D r) (ad (aL b) λs=>ad (ak P 235 s 4) λt=>ad (ah P a 190 t) λu=>ad (aF P 190 u (I J 1)) λv=>ad (ak P 235 v 6) λw=>ad (ah P a 46 w) λx=>aB a (aA P a 46 d x) λh=>lF G b c d h) (lF G b c d a)
def Qm(G:ai)(N:Nat)(b:aa)(c:aa)(H:ae):aD Tryz.f238 G N (aP [b,c]) H=p6 G b c H:=by
 refine aS (A:=aD Tryz.f238 G N) ((aq j ((aq j ((aq j ((aq j (Qn G N) (aj _))) (aj _))) (aj _))) (aj _))) ?_;delta p6;generalize lF G=a;revert a;refine id ?_;intro a;kernel_rfl
def eC(G:ai)(N:Nat)(b c f:aa)(H:ae):O:=ad (ah P H 235 f) λd=>au H (G 257 [b,d,c] H) λe a=>D (e,a)
def Qu(G:ai)(N:Nat):∀C H,aE P G N (af (af (aG Tryz.f239))) (ay Tryz.f239) [] (ay Tryz.f239) C H=eC G N (C 0) (C 2) (C 4) H:=by
 refine aH (aj _) λC H=> ?_
 delta eC;kernel_rfl
def lJ(G:ai)(N:Nat)(H:ae):O:=some ((Z U),H)
def Qw(G:ai)(N:Nat):∀C H,aE P G N (af (af (af (af (af (an (af (af (af (af (af (af (af (af (af (af (af (af (af (af (af (af (af (an (af (an (af (aG Tryz.f239)))))))))))))))))))))))))))) (λC H=>eC G N (C 0) (C 2) (C 4) H) [(0,(λC H=>eC G N (C 0) (C 2) (C 4) H))] (ay Tryz.f239) C H=lJ G N H:=by
 refine aH (aj _) λC H=> ?_
 delta lJ;kernel_rfl
def uP(G:ai)(N:Nat)(f:aa->aa->aa->aa->ae->O)(d e:aa)(b a:aa)(H:ae):O:=aZ P .len [93] [b] H λh=>ad (al P .lss 3 U a h) λi=>ax (D i) (ad (aF P 93 b a) λk=>ad (ak P 98 k 0) λl=>ad (ah P H 9 l) λm=>ad (ak P 235 e 2) λn=>ad (ah P H 9 n) λo=>ad (al P .eql 9 U m o) λp=>ax (D p) (ad (aL d) λq=>ad (ak P 235 q 7) λr=>aB H (aA P H 3 r a) λc=>ad (aF P 93 b a) λs=>ad (ak P 98 s 1) λt=>ad (ah P c 46 t) λu=>ad (aL d) λv=>ad (ak P 235 v 6) λw=>aB c (aA P c 46 w u) λg=>D ((Z V),g)) (ad (al P .add 3 V a (I J 1)) λj=>f d e b j H)) (lJ G N H)
def lK(G:ai)(N:Nat):Nat->aa->aa->aa->aa->ae->O
 |0,_,_,_,_,_=>Y
 |n+1,c,d,a,b,H=>uP G N (lK G N n) c d a b H
def Qs(G:ai)(N:Nat)(b:aa->aa->aa->aa->ae->O):∀C H,aE P G N (an (an (af (an (af (af (af (af (an (af (af (af (af (af (af (af (af (af (af (af (af (af (af (af (af (af (an (af (an (af (aG Tryz.f239))))))))))))))))))))))))))))))) (λC H=>b (C 2) (C 4) (C 16) (C 17) H) [(1,(λC H=>lJ G N H)),(0,(λC H=>eC G N (C 0) (C 2) (C 4) H))] (ay Tryz.f239) C H=uP G N b (C 2) (C 4) (C 16) (C 17) H:=by
 refine aH (aj _) λC H=> ?_
 delta uP;generalize lJ G N=a;revert a;refine id ?_;intro a;kernel_rfl
def lI(G:ai)(N:Nat)(x d:aa)(r z ch:aa)(H:ae):O:=ax (D ch) (ad (ak P 235 r 3) λci=>ad (ah P H 121 ci) λcj=>ad (aL d) λck=>ad (ak P 235 ck 3) λcl=>aB H (aA P H 121 cl cj) λa=>ad (aL x) λcm=>ad (ak P 184 cm 1) λam=>ad (ah P a 57 am) λan=>ad (ak P 235 r 3) λap=>ad (ah P a 121 ap) λaq=>au a (G 161 [an,aq] a) λav c=>ad (bG av 0) λcn=>a7 c [I J 0,I J 0,I J 0] λE b=>aB b (aA P b 46 E cn) λf=>ad (bG av 1) λT=>bif ((aJ (ah P a 57 am) an&&V)&&((aJ (ah P a 121 ap) aq&&V)&&V))then(ad (ah P f 46 E) λco=>ad (aL d) λcp=>ad (ak P 235 cp 6) λcq=>aB f (aA P f 46 cq co) λe=>ao T V e (qr (ah P e 46 E)) λcs n=>ao T V n (λq=>bg n (G 50 [cs] n) q) λct aQ=>ad (aN T (D ct) (D (Z U))) λv=>ao v V aQ (az (ak P 235 r 0)) λcu ab=>ao v V ab (qr (ah P ab 3 cu)) λcv aR=>ao v V aR (az (al P .eql 3 V cv (I J 3))) λcw aG=>ao v V aG (aM cw) λF aH=>ao F U aH (az (ak P 46 E 2)) λcx W=>ao F U W (qr (ah P W 3 cx)) λcy aI=>ao F U aI (az (al P .eql 3 V cy (I J 0))) λcz aO=>ao v V aO (az (aN F (D (Z V)) (D cz))) λcA aP=>ad (aN v (D cA) (D (Z U))) λcB=>D (cB,aP))else Y) (ad (al P .eql 3 V z (I J 9)) λcC=>ax (D cC) (ad (ak P 235 r 3) λcD=>ad (ah P H 121 cD) λcE=>ad (aL d) λcF=>ad (ak P 235 cF 3) λcG=>aB H (aA P H 121 cG cE) λa=>ad (aL x) λcH=>ad (ak P 184 cH 1) λaw=>ad (ah P a 57 aw) λay=>ad (ak P 235 r 3) λaC=>ad (ah P a 121 aC) λaD=>au a (G 161 [ay,aD] a) λaE c=>ad (bG aE 0) λaS=>a7 c [I J 0,I J 0,I J 0] λA b=>aB b (aA P b 46 A aS) λf=>ad (bG aE 1) λu=>bif ((aJ (ah P a 57 aw) ay&&V)&&((aJ (ah P a 121 aC) aD&&V)&&V))then(ad (ak P 46 A 0) λaT=>ad (ah P f 3 aT) λaU=>ad (ak P 46 A 1) λaV=>ad (ah P f 3 aV) λaW=>ad (ak P 46 A 2) λaX=>ad (ah P f 3 aX) λaY=>ad (al P .add 3 V aY (I J 1)) λaZ=>ad (bh P 46 [(0,aU),(1,aW),(2,aZ)]) λa0=>ad (aL d) λa1=>ad (ak P 235 a1 6) λa2=>aB f (aA P f 46 a2 a0) λe=>aK u V (az (ak P 46 A 2)) λg=>aK u V (qr (ah P (g.heap e) 3 g.val)) λh=>aK u V (az (al P .lss 3 V h.val (I J 3))) λi=>ad (aN u (D i.val) (D (Z U))) λl=>aK l V (λq=>bg (i.heap (h.heap (g.heap e))) (G 215 [] (i.heap (h.heap (g.heap e)))) q) λj=>aK l V (aM d) λo=>aK l V (az (aL o.val)) λp=>aK l V (az (ak P 235 p.val 4)) λk=>aK l V (qr (ah P (k.heap (p.heap (o.heap (j.heap (i.heap (h.heap (g.heap e))))))) 190 k.val)) λs=>aK l V (az (aF P 190 s.val (I J 0))) λt=>aK l V (az (ak P 235 t.val 6)) λw=>aK l V (qr (ah P (w.heap (t.heap (s.heap (k.heap (p.heap (o.heap (j.heap (i.heap (h.heap (g.heap e)))))))))) 46 w.val)) λK=>aK l V (az (al P .eql 46 U K.val j.val)) λL=>ad (aN l (D L.val) (D (Z U))) λM=>bif b3 [0,1,3,7,15,31,63,127,255,511,1023,2047,4095,8191,127,32767,65535,131071] [0,1,2,3,4,5,6,14,15,16,17] [⟨0,.pure u,λH=>Y⟩,⟨1,.pure u,λH=>Y⟩,⟨2,g,λH=>Y⟩,⟨3,h,λH=>ah P H 3 g.val⟩,⟨4,i,λH=>Y⟩,⟨5,.pure l,λH=>Y⟩,⟨6,.pure l,λH=>Y⟩,⟨14,j,λH=>Y⟩,⟨7,o,λH=>Y⟩,⟨8,p,λH=>Y⟩,⟨9,k,λH=>Y⟩,⟨10,s,λH=>ah P H 190 k.val⟩,⟨11,t,λH=>Y⟩,⟨12,w,λH=>Y⟩,⟨13,K,λH=>ah P H 46 w.val⟩,⟨15,L,λH=>Y⟩,⟨16,.pure M,λH=>Y⟩,⟨17,.pure M,λH=>Y⟩] e then(D (M,(L.heap (K.heap (w.heap (t.heap (s.heap (k.heap (p.heap (o.heap (j.heap (i.heap (h.heap (g.heap e))))))))))))))else Y)else Y) (ad (al P .eql 3 V z (I J 4)) λa3=>ax (D a3) (ad (ak P 235 r 2) λa4=>ad (ah P H 9 a4) λa5=>ad (aL d) λa6=>ad (ak P 235 a6 2) λa8=>aB H (aA P H 9 a8 a5) λa=>ad (ak P 235 r 2) λa9=>ad (ah P a 9 a9) λa_=>au a (G 213 [x,a_] a) λQ c=>ad (bG Q 0) λba=>ad (bG Q 1) λbb=>ad (bG Q 2) λbc=>a7 c [I J 0,I J 0,I J 0] λaf b=>aB b (aA P b 46 af bb) λf=>ad (aL d) λbd=>ad (ak P 235 bd 7) λbe=>aB f (aA P f 3 be ba) λe=>ad (ah P e 46 af) λbf=>ad (aL d) λbi=>ad (ak P 235 bi 6) λbj=>aB e (aA P e 46 bj bf) λn=>D (bc,n)) (ad (al P .eql 3 V z (I J 10)) λbk=>ax (D bk) (au H (G 215 [] H) λbl a=>ad (aL d) λbm=>ad (ak P 235 bm 6) λbn=>aB a (aA P a 46 bn bl) λc=>ad (aL d) λbo=>ad (ak P 235 bo 4) λbp=>ad (ah P c 190 bp) λbq=>ad (aF P 190 bq (I J 0)) λbs=>ad (ak P 235 bs 6) λbt=>ad (ak P 46 bt 2) λbu=>ad (ah P c 3 bu) λbv=>ad (al P .gtr 3 V bv (I J 0)) λbw=>D (bw,c)) (ad (al P .eql 3 V z (I J 6)) λbx=>ax (D bx) (ad (aL d) λbz=>ad (ak P 235 bz 4) λbA=>ad (ah P H 190 bA) λbB=>ad (aF P 190 bB (I J 0)) λbC=>ad (ak P 235 bC 6) λbD=>ad (ah P H 46 bD) λbE=>a7 H [I J 0,I J 0,I J 0] λy a=>aB a (aA P a 46 y bE) λc=>ad (ak P 46 y 0) λbF=>ad (ah P c 3 bF) λbH=>ad (ak P 46 y 1) λbI=>ad (ah P c 3 bI) λbJ=>ad (ak P 46 y 2) λbK=>ad (ah P c 3 bK) λbL=>ad (al P .sub 3 V bL (I J 1)) λbM=>ad (bh P 46 [(0,bH),(1,bJ),(2,bM)]) λbN=>ad (aL d) λbO=>ad (ak P 235 bO 6) λbP=>aB c (aA P c 46 bP bN) λb=>ad (ak P 46 y 2) λR=>ad (ah P b 3 R) λaj=>ad (al P .gtr 3 V aj (I J 0)) λm=>aK m V (λq=>bg b (G 215 [] b) q) λg=>aK m V (aM d) λh=>aK m V (az (aL h.val)) λi=>aK m V (az (ak P 235 i.val 4)) λj=>aK m V (qr (ah P (j.heap (i.heap (h.heap (g.heap b)))) 190 j.val)) λo=>aK m V (az (aF P 190 o.val (I J 1))) λp=>aK m V (az (ak P 235 p.val 6)) λk=>aK m V (qr (ah P (k.heap (p.heap (o.heap (j.heap (i.heap (h.heap (g.heap b))))))) 46 k.val)) λs=>aK m V (az (al P .eql 46 U s.val g.val)) λt=>ad (aN m (D t.val) (D (Z U))) λS=>bif b3 [0,1,3,7,15,31,63,127,255,511,1023,15,4095,8191,16383] [0,1,2,3,11,12,13,14] [⟨0,.pure R,λH=>Y⟩,⟨1,.read aj,λH=>ah P H 3 R⟩,⟨2,.pure m,λH=>Y⟩,⟨3,.pure m,λH=>Y⟩,⟨11,g,λH=>Y⟩,⟨4,h,λH=>Y⟩,⟨5,i,λH=>Y⟩,⟨6,j,λH=>Y⟩,⟨7,o,λH=>ah P H 190 j.val⟩,⟨8,p,λH=>Y⟩,⟨9,k,λH=>Y⟩,⟨10,s,λH=>ah P H 46 k.val⟩,⟨12,t,λH=>Y⟩,⟨13,.pure S,λH=>Y⟩,⟨14,.pure S,λH=>Y⟩] b then(D (S,(t.heap (s.heap (k.heap (p.heap (o.heap (j.heap (i.heap (h.heap (g.heap b)))))))))))else Y) (ad (al P .eql 3 V z (I J 5)) λbQ=>ax (D bQ) (ad (ak P 235 r 2) λbR=>ad (ah P H 9 bR) λbT=>ad (aL d) λbU=>ad (ak P 235 bU 2) λbV=>aB H (aA P H 9 bV bT) λa=>ad (aL d) λbW=>ad (ak P 235 bW 4) λbX=>ad (ah P a 190 bX) λbY=>ad (aF P 190 bY (I J 0)) λbZ=>ad (ak P 235 bZ 6) λb0=>ad (ah P a 46 b0) λb1=>a7 a [I J 0,I J 0,I J 0] λB c=>aB c (aA P c 46 B b1) λb=>ad (ak P 46 B 0) λb2=>ad (ah P b 3 b2) λb4=>ad (al P .neq 3 V b4 (I J 3)) λC=>ao C U b (az (ak P 46 B 2)) λb5 f=>ao C U f (qr (ah P f 3 b5)) λb6 e=>ao C U e (az (al P .neq 3 V b6 (I J 0))) λb7 n=>ad (aN C (D (Z V)) (D b7)) λb8=>ax (D b8) (D ((Z U),n)) (ad (aL x) λb9=>ad (ak P 184 b9 0) λb_=>ad (ak P 132 b_ 0) λca=>ad (ah P n 22 ca) λcb=>ad (ak P 46 B 1) λcc=>ad (ah P n 3 cc) λcd=>ad (aF P 22 cb cd) λce=>ad (ak P 95 ce 1) λcf=>ad (ah P n 93 cf) λcg=>lK G N N d r cg (I J 0) n)) (eC G N x d r H))))))
def Qv(G:ai)(N:Nat):∀C H,aE P G N (af (af (af (af (af (af (af (an (af (an (af (aG Tryz.f239)))))))))))) (λC H=>eC G N (C 0) (C 2) (C 4) H) [(0,(λC H=>eC G N (C 0) (C 2) (C 4) H))] (ay Tryz.f239) C H=lI G N (C 0) (C 2) (C 4) (C 19) (C 48) H:=by
 refine aH ((bB j (aj _) ((aq j ((bB j (aj _) ((aq j ((bB j (aj _) ((aq j ((bB j (aj _) ((aq j ((bB j (aj _) ((aq j ((bB j ((aq j ((aq j ((aq j ((aq j ((aq j (Qw G N) ((aq j ((aT j ((a8 (k:=λm C H=>lK G N m (C 2) (C 4) (C 16) (C 17) H) j (λC H=>j) (λm=>Qs G N (lK G N m)))))) (aj _))))) (aj _))) (aj _))) (aj _))) (aj _))) (aj _))) (aj _))))) (aj _))))) (aj _))))) (aj _))))) (aj _))))) λC H=> ?_
 delta lI;generalize eC G N=a;generalize lK G N N=b;revert a b;refine id ?_;intro a b;kernel_rfl
def p7(G:ai)(N:Nat)(h j e:aa)(H:ae):O:=aO H (bo (H).next j) λf a=>ad (ak P 235 f 0) λk=>ad (ah P a 3 k) λd=>ad (al P .eql 3 V d (I J 1)) λl=>ax (D l) (ad (ak P 235 f 1) λm=>ad (ah P a 3 m) λn=>ad (aL e) λo=>ad (ak P 235 o 1) λp=>aB a (aA P a 3 p n) λb=>au b (G 215 [] b) λq c=>ad (aL e) λr=>ad (ak P 235 r 6) λs=>aB c (aA P c 46 s q) λg=>D ((Z V),g)) (ad (al P .eql 3 V d (I J 2)) λt=>ax (D t) (ad (ak P 235 f 1) λu=>ad (ah P a 3 u) λv=>ad (aL e) λw=>ad (ak P 235 w 1) λx=>aB a (aA P a 3 x v) λb=>au b (G 214 [] b) λy c=>ad (aL e) λz=>ad (ak P 235 z 6) λA=>aB c (aA P c 46 A y) λg=>D ((Z V),g)) (ad (al P .eql 3 V d (I J 11)) λB=>ax (D B) (au a (G 215 [] a) λC b=>ad (aL e) λE=>ad (ak P 235 E 6) λF=>aB b (aA P b 46 F C) λc=>D ((Z V),c)) (ad (al P .eql 3 V d (I J 3)) λi=>ax (D i) (lI G N h e f d i a) (ad (al P .eql 3 V d (I J 8)) λK=>lI G N h e f d K a))))
def Qt(G:ai)(N:Nat)(b:aa)(c:aa)(d:aa)(H:ae):aD Tryz.f239 G N (aP [b,c,d]) H=p7 G N b c d H:=by
 refine aS (A:=aD Tryz.f239 G N) ((aq j ((aq j (Qu G N) ((aq j ((aT j ((aq j ((bB j (aj _) ((aq j ((bB j (aj _) ((aq j ((bB j (aj _) ((aq j (Qv G N) (aj _))))) (aj _))))) (aj _))))) (aj _))))) (aj _))))) (aj _))) ?_;delta p7;generalize lI G N=a;revert a;refine id ?_;intro a;kernel_rfl
def e9(G:ai)(N:Nat)(H:ae):O:=some ((Z U),H)
def Q_(G:ai)(N:Nat):∀C H,aE P G N (af (af (af (aG Tryz.f257)))) (ay Tryz.f257) [] (ay Tryz.f257) C H=e9 G N H:=by
 refine aH (aj _) λC H=> ?_
 delta e9;kernel_rfl
def fW(G:ai)(N:Nat)(a:aa->aa->aa->aa->ae->O)(b c:aa)(e f:aa)(H:ae):O:=ad (al P .add 3 V f (I J 1)) λd=>a b c e d H
def Ra(G:ai)(N:Nat)(a:aa->aa->aa->aa->ae->O):∀C H,aE P G N (af (af (an (an (af (an (af (af (aG Tryz.f257))))))))) (λC H=>a (C 0) (C 2) (C 4) (C 7) H) [(0,(λC H=>e9 G N H))] (ay Tryz.f257) C H=fW G N a (C 0) (C 2) (C 4) (C 7) H:=by
 refine aH (aj _) λC H=> ?_
 delta fW;kernel_rfl
def lY(G:ai)(N:Nat)(l:aa->aa->aa->aa->ae->O)(b d k:aa)(H:ae):O:=ad (aL b) λe=>ad (ak P 235 e 7) λf=>aB H (aA P H 3 f d) λa=>ad (ak P 143 k 3) λg=>ad (ah P a 46 g) λh=>ad (aL b) λi=>ad (ak P 235 i 6) λj=>aB a (aA P a 46 j h) λc=>D ((Z V),c)
def Rb(G:ai)(N:Nat)(a:aa->aa->aa->aa->ae->O):∀C H,aE P G N (af (af (af (af (an (an (af (an (an (af (an (af (af (aG Tryz.f257)))))))))))))) (λC H=>fW G N a (C 0) (C 2) (C 4) (C 7) H) [(1,(λC H=>fW G N a (C 0) (C 2) (C 4) (C 7) H)),(0,(λC H=>e9 G N H))] (ay Tryz.f257) C H=lY G N a (C 2) (C 7) (C 8) H:=by
 refine aH (aj _) λC H=> ?_
 delta lY;kernel_rfl
def uV(G:ai)(N:Nat)(e:aa->aa->aa->aa->ae->O)(f:aa->aa->aa->aa->ae->O)(a d:aa)(c b:aa)(H:ae):O:=ad (aL a) λg=>ad (ak P 235 g 4) λh=>ad (ah P H 190 h) λi=>aZ P .len [190] [i] H λj=>ad (al P .lss 3 U b j) λk=>ax (D k) (ad (aL a) λm=>ad (ak P 235 m 4) λn=>ad (ah P H 190 n) λo=>ad (aF P 190 o b) λp=>ad (ak P 235 p 6) λq=>ad (ah P H 46 q) λr=>ad (ak P 143 c 1) λs=>ad (ah P H 93 s) λt=>ad (aF P 93 t b) λu=>ad (ak P 98 u 1) λv=>ad (ah P H 46 v) λw=>ad (al P .neq 46 U r w) λx=>ax (D x) (D ((Z U),H)) (ad (al P .add 3 V b (I J 1)) λl=>f a d c l H)) (lY G N e a d c H)
def l0(G:ai)(N:Nat)(a:aa->aa->aa->aa->ae->O):Nat->aa->aa->aa->aa->ae->O
 |0,_,_,_,_,_=>Y
 |n+1,b,c,d,e,H=>uV G N a (l0 G N a n) b c d e H
def Q8(G:ai)(N:Nat)(a:aa->aa->aa->aa->ae->O)(c:aa->aa->aa->aa->ae->O):∀C H,aE P G N (an (an (af (an (af (af (af (an (an (af (an (an (af (an (af (af (aG Tryz.f257))))))))))))))))) (λC H=>c (C 2) (C 7) (C 8) (C 9) H) [(2,(λC H=>lY G N a (C 2) (C 7) (C 8) H)),(1,(λC H=>fW G N a (C 0) (C 2) (C 4) (C 7) H)),(0,(λC H=>e9 G N H))] (ay Tryz.f257) C H=uV G N a c (C 2) (C 7) (C 8) (C 9) H:=by
 refine aH (aj _) λC H=> ?_
 delta uV;generalize lY G N a=b;revert b;refine id ?_;intro b;kernel_rfl
def uU(G:ai)(N:Nat)(f:aa->aa->aa->aa->ae->O)(d e:aa)(h b:aa)(H:ae):O:=ad (aL d) λi=>ad (ak P 184 i 0) λj=>ad (ak P 132 j 2) λk=>ad (ah P H 130 k) λl=>aZ P .len [130] [l] H λm=>ad (al P .lss 3 U b m) λn=>ax (D n) (ad (aL d) λo=>ad (ak P 184 o 0) λp=>ad (ak P 132 p 2) λq=>ad (ah P H 130 q) λr=>ad (aF P 130 r b) λs=>ad (ah P H 143 s) λt=>a7 H [X [],aa.ar,Z U,I J 0,I J 0,I J 0] λc g=>aB g (aA P g 143 c t) λa=>ad (ak P 143 c 0) λu=>ad (ah P a 9 u) λv=>ad (ak P 235 h 2) λw=>ad (ah P a 9 w) λx=>ad (al P .neq 9 U v x) λy=>ax (D y) (fW G N f d e h b a) (ad (ak P 143 c 1) λz=>ad (ah P a 93 z) λA=>aZ P .len [93] [A] a λB=>ad (aL e) λC=>ad (ak P 235 C 4) λE=>ad (ah P a 190 E) λF=>aZ P .len [190] [F] a λK=>ad (al P .neq 3 U B K) λL=>ax (D L) (D ((Z U),a)) (l0 G N f N e b c (I J 0) a))) (e9 G N H)
def lZ(G:ai)(N:Nat):Nat->aa->aa->aa->aa->ae->O
 |0,_,_,_,_,_=>Y
 |n+1,a,b,c,d,H=>uU G N (lZ G N n) a b c d H
def Q7(G:ai)(N:Nat)(a:aa->aa->aa->aa->ae->O):∀C H,aE P G N (an (an (af (an (af (af (aG Tryz.f257))))))) (λC H=>a (C 0) (C 2) (C 4) (C 7) H) [(0,(λC H=>e9 G N H))] (ay Tryz.f257) C H=uU G N a (C 0) (C 2) (C 4) (C 7) H:=by
 refine aH ((aq j ((aq j (Ra G N a) ((aT j ((aq j ((aq j ((aq j ((aq j (Rb G N a) ((aq j ((aT j ((a8 (k:=λm C H=>l0 G N a m (C 2) (C 7) (C 8) (C 9) H) j (λC H=>j) (λm=>Q8 G N a (l0 G N a m)))))) (aj _))))) (aj _))) (aj _))) (aj _))))))) (aj _))) λC H=> ?_
 delta uU;generalize e9 G N=b;generalize l0 G N a N=c;generalize fW G N a=d;revert b c d;refine id ?_;intro b c d;kernel_rfl
def qo(G:ai)(N:Nat)(e f b:aa)(H:ae):O:=aO H (bo (H).next f) λc a=>ad (ak P 235 c 2) λg=>ad (ah P a 9 g) λh=>ad (aL b) λi=>ad (ak P 235 i 2) λj=>aB a (aA P a 9 j h) λd=>lZ G N N e b c (I J 0) d
def Q9(G:ai)(N:Nat)(b:aa)(c:aa)(d:aa)(H:ae):aD Tryz.f257 G N (aP [b,c,d]) H=qo G N b c d H:=by
 refine aS (A:=aD Tryz.f257 G N) ((aq j ((aq j ((aq j (Q_ G N) ((aq j ((aT j ((a8 (k:=λm C H=>lZ G N m (C 0) (C 2) (C 4) (C 7) H) j (λC H=>j) (λm=>Q7 G N (lZ G N m)))))) (aj _))))) (aj _))) (aj _))) ?_;delta qo;generalize lZ G N N=a;revert a;refine id ?_;intro a;kernel_rfl
