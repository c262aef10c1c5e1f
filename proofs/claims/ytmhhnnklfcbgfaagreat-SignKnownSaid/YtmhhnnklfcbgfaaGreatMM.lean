/-
  Texts of one proof, laid together: ShP.
-/
import Derived.Test.YtmhhnnklfcbgfaaGreatME
set_option linter.unusedVariables false
set_option linter.unusedSimpArgs false
set_option linter.defProp false
open Option renaming some→D,none→Y
open Bool renaming true→V,false→U
open Go.bN.aa renaming int→I,str→X,bool→Z
open Go.IntKind renaming i64→J
namespace Go.Proofs.YtmhhnnklfcbgfaaGreat
open Go.bN
set_option maxRecDepth 100000
noncomputable section
def g6(G:ai)(N:Nat)(d e:aa)(i n:aa)(H:ae):O:=au H (G 59 [i] H) λj c=>ad (bt .not j) λk=>ax (D k) (aB c (aA P c 62 d (.agg [aa.ar,aa.ar,aa.ar])) λa=>ad (aL i) λl=>ad (ak P 111 l 3) λg=>ad (ah P a 65 g) λh=>aB a (aA P a 65 e h) λb=>bif ((aJ (ah P c 65 g) h&&(aJ (ah P a 65 g) h&&V))&&V)then(ad (ah P b 62 d) λr=>ad (ah P b 65 e) λf=>D (.tuple [r,f],b))else Y) (ad (ah P c 62 n) λm=>aB c (aA P c 62 d m) λa=>aB a (aA P a 65 e (.agg [I J 0,I J 0])) λb=>ad (ah P b 62 d) λr=>ad (ah P b 65 e) λf=>D (.tuple [r,f],b))
def Rw(G:ai)(N:Nat):∀C H,aE P G N (af (af (af (af (af (af (aG Tryz.f33))))))) (ay Tryz.f33) [] (ay Tryz.f33) C H=g6 G N (C 2) (C 3) (C 6) (C 7) H:=by
 refine aH (aj _) λC H=> ?_
 delta g6;kernel_rfl
def g7(G:ai)(N:Nat)(i:aa->aa->aa->aa->ae->O)(k l:aa)(a e B:aa)(H:ae):O:=ax (D B) (au H (G 62 [a,I J 4] H) λaF h=>i k l a e h) (au H (G 61 [a,X [114,101,99,111,114,100]] H) λC h=>ax (D C) (ad (aL a) λE=>ad (ak P 111 E 1) λF=>ad (ah P h 3 F) λK=>ad (al P .add 3 V K (I J 1)) λL=>ad (aL a) λM=>ad (ak P 111 M 1) λQ=>aB h (aA P h 3 Q L) λf=>au f (G 63 [a] f) λR b=>ad (ak P 62 e 0) λo=>ad (ah P b 58 o) λp=>aO b (bl P (b).next 58 1 [(0,R)]) λS c=>au c (bJ P c [58,58] p S) λT d=>ad (ak P 62 e 0) λW=>aB d (aA P d 58 W T) λg=>bif ((aJ (ah P f 58 o) p&&(aJ (ah P b 58 o) p&&(aJ (ah P c 58 o) p&&V)))&&V)then(i k l a e g)else Y) (au h (G 61 [a,X [103,108,111,98,97,108]] h) λab f=>ax (D ab) (ad (aL a) λaf=>ad (ak P 111 af 1) λaj=>ad (ah P f 3 aj) λam=>ad (al P .add 3 V am (I J 1)) λan=>ad (aL a) λao=>ad (ak P 111 ao 1) λap=>aB f (aA P f 3 ap an) λb=>au b (G 64 [a] b) λaq c=>ad (ak P 62 e 1) λq=>ad (ah P c 59 q) λr=>aO c (bl P (c).next 59 1 [(0,aq)]) λav d=>au d (bJ P d [59,59] r av) λaw g=>ad (ak P 62 e 1) λay=>aB g (aA P g 59 ay aw) λj=>bif ((aJ (ah P b 59 q) r&&(aJ (ah P c 59 q) r&&(aJ (ah P d 59 q) r&&V)))&&V)then(au j (G 65 [a,X [59]] j) λaG s=>i k l a e s)else Y) (au f (G 61 [a,X [102,117,110,99]] f) λaz b=>ax (D az) (ad (aL a) λaC=>ad (ak P 111 aC 1) λaD=>ad (ah P b 3 aD) λt=>ad (al P .add 3 V t (I J 1)) λu=>ad (aL a) λv=>ad (ak P 111 v 1) λw=>aB b (aA P b 3 w u) λc=>au c (G 66 [a] c) λx d=>ad (ak P 62 e 2) λm=>ad (ah P d 60 m) λn=>aO d (bl P (d).next 60 1 [(0,x)]) λy g=>au g (bJ P g [60,60] n y) λz j=>ad (ak P 62 e 2) λA=>aB j (aA P j 60 A z) λs=>bif ((aJ (ah P c 60 m) n&&(aJ (ah P d 60 m) n&&(aJ (ah P g 60 m) n&&V)))&&V)then(i k l a e s)else Y) (au b (G 62 [a,I J 2] b) λaE c=>i k l a e c))))
def Rx(G:ai)(N:Nat)(a:aa->aa->aa->aa->ae->O):∀C H,aE P G N (af (an (an (af (an (an (an (af (af (af (af (af (aG Tryz.f33))))))))))))) (λC H=>a (C 2) (C 3) (C 6) (C 7) H) [(2,(λC H=>a (C 2) (C 3) (C 6) (C 7) H)),(1,(λC H=>a (C 2) (C 3) (C 6) (C 7) H)),(0,(λC H=>g6 G N (C 2) (C 3) (C 6) (C 7) H))] (ay Tryz.f33) C H=g7 G N a (C 2) (C 3) (C 6) (C 7) (C 31) H:=by
 refine aH (aj _) λC H=> ?_
 delta g7;kernel_rfl
def uZ(G:ai)(N:Nat)(i:aa->aa->aa->aa->ae->O)(g h:aa)(a b:aa)(H:ae):O:=au H (G 59 [a] H) λc z=>ao c V z (aM a) λR l=>ao c V l (λq=>bg l (G 60 [R] l) q) λS K=>ao c V K (az (bp P 113 S 0)) λT L=>ao c V L (az (al P .neq 3 V T (I J 0))) λW m=>ad (aN c (D W) (D (Z U))) λab=>ax (D ab) (au m (G 61 [a,X [114,101,99,111,114,100]] m) λd M=>ao d V M (az (ak P 62 b 0)) λaf s=>ao d V s (qr (ah P s 58 af)) λu t=>ao d V t (λq=>bH (aW P .empty .len [58] [u]) (aW P t .len [58] [u]) q) λaj Q=>ao d V Q (az (al P .eql 3 V aj (I J 12))) λam j=>ad (aN d (D am) (D (Z U))) λv=>ax (D v) (g7 G N i g h a b v j) (au j (G 61 [a,X [103,108,111,98,97,108]] j) λe A=>ao e V A (az (ak P 62 b 1)) λan n=>ao e V n (qr (ah P n 59 an)) λw o=>ao e V o (λq=>bH (aW P .empty .len [59] [w]) (aW P o .len [59] [w]) q) λap B=>ao e V B (az (al P .eql 3 V ap (I J 8))) λaq k=>ad (aN e (D aq) (D (Z U))) λx=>ax (D x) (g7 G N i g h a b x k) (au k (G 61 [a,X [102,117,110,99]] k) λf C=>ao f V C (az (ak P 62 b 2)) λav p=>ao f V p (qr (ah P p 60 av)) λy r=>ao f V r (λq=>bH (aW P .empty .len [60] [y]) (aW P r .len [60] [y]) q) λaw E=>ao f V E (az (al P .eql 3 V aw (I J 16))) λay F=>ad (aN f (D ay) (D (Z U))) λaA=>g7 G N i g h a b aA F))) (g6 G N g h a b m)
def l7(G:ai)(N:Nat):Nat->aa->aa->aa->aa->ae->O
 |0,_,_,_,_,_=>Y
 |n+1,a,b,c,d,H=>uZ G N (l7 G N n) a b c d H
def Ru(G:ai)(N:Nat)(a:aa->aa->aa->aa->ae->O):∀C H,aE P G N (an (an (an (af (af (af (af (af (aG Tryz.f33))))))))) (λC H=>a (C 2) (C 3) (C 6) (C 7) H) [(0,(λC H=>g6 G N (C 2) (C 3) (C 6) (C 7) H))] (ay Tryz.f33) C H=uZ G N a (C 2) (C 3) (C 6) (C 7) H:=by
 refine aH ((aq j ((aT j ((aT j ((aq j (Rx G N a) (aj _))))))) (aj _))) λC H=> ?_
 delta uZ;generalize g6 G N=b;generalize g7 G N a=c;revert b c;refine id ?_;intro b c;kernel_rfl
def qB(G:ai)(N:Nat)(n:aa)(H:ae):O:=a7 H [aa.ar,aa.ar,aa.ar] λf k=>a7 k [I J 0,I J 0] λg h=>au h (G 58 [n] h) λj l=>ad (bG j 0) λo=>ad (bG j 1) λp=>a7 l [I J 0,I J 0] λd i=>aB i (aA P i 65 d p) λa=>ad (ak P 65 d 0) λq=>ad (ah P a 63 q) λs=>ad (al P .neq 63 V s (I J 0)) λt=>ax (D t) (aB a (aA P a 62 f (.agg [aa.ar,aa.ar,aa.ar])) λb=>ad (ah P b 65 d) λe=>aB b (aA P b 65 g e) λc=>bif ((aJ (ah P a 65 d) e&&(aJ (ah P b 65 d) e&&V))&&V)then(ad (ah P c 62 f) λr=>ad (ah P c 65 g) λm=>D (.tuple [r,m],c))else Y) (ad (bh P 111 [(0,o)]) λu=>aO a (bo (a).next u) λv b=>a7 b [aa.ar,aa.ar,aa.ar] λw c=>l7 G N N f g v w c)
def Rv(G:ai)(N:Nat)(b:aa)(H:ae):aD Tryz.f33 G N (aP [b]) H=qB G N b H:=by
 refine aS (A:=aD Tryz.f33 G N) ((aq j ((aq j ((aq j ((aq j ((aq j ((aq j (Rw G N) ((aT j ((a8 (k:=λm C H=>l7 G N m (C 2) (C 3) (C 6) (C 7) H) j (λC H=>j) (λm=>Ru G N (l7 G N m)))))))) (aj _))) (aj _))) (aj _))) (aj _))) (aj _))) ?_;delta qB;generalize l7 G N N=a;revert a;refine id ?_;intro a;kernel_rfl
def mr(G:ai)(N:Nat)(e d g:aa)(H:ae):O:=aZ P .len [9] [e] H λf=>ad (bh P 113 [(0,(I J 0)),(3,f)]) λh=>aO H (bl P (H).next 106 1 [(0,h)]) λi a=>au a (bJ P a [106,106] g i) λj b=>aB b (aA P b 65 d (.agg [I J 0,I J 0])) λc=>ad (ah P c 65 d) λr=>D (.tuple [j,r],c)
def R_(G:ai)(N:Nat):∀C H,aE P G N (af (af (af (af (af (aG Tryz.f58)))))) (ay Tryz.f58) [] (ay Tryz.f58) C H=mr G N (C 0) (C 3) (C 4) H:=by
 refine aH (aj _) λC H=> ?_
 delta mr;kernel_rfl
def u_(G:ai)(N:Nat)(l:aa->aa->aa->aa->ae->O)(c d:aa)(j e:aa)(H:ae):O:=aZ P .len [9] [c] H λo=>ad (al P .lss 3 U e o) λp=>ax (D p) (au H (G 113 [c,e] H) λh m=>ad (bG h 0) λq=>ad (bG h 1) λi=>a7 m [I J 0,X [],I J 0,I J 0] λk f=>aB f (aA P f 113 k q) λa=>ad (al P .eql 3 V i (I J 0)) λs=>ax (D s) (ad (bh P 65 [(0,(I J 1)),(1,e)]) λt=>aB a (aA P a 65 d t) λb=>ad (ah P b 65 d) λr=>D (.tuple [aa.ar,r],b)) (ad (ah P a 113 k) λu=>aO a (bl P (a).next 106 1 [(0,u)]) λv b=>au b (bJ P b [106,106] j v) λw g=>ad (al P .add 3 U e i) λx=>au g (G 112 [c,x] g) λy n=>l c d w y n)) (mr G N c d j H)
def mu(G:ai)(N:Nat):Nat->aa->aa->aa->aa->ae->O
 |0,_,_,_,_,_=>Y
 |n+1,a,b,c,d,H=>u_ G N (mu G N n) a b c d H
def R8(G:ai)(N:Nat)(b:aa->aa->aa->aa->ae->O):∀C H,aE P G N (an (an (an (af (af (af (af (aG Tryz.f58)))))))) (λC H=>b (C 0) (C 3) (C 4) (C 5) H) [(0,(λC H=>mr G N (C 0) (C 3) (C 4) H))] (ay Tryz.f58) C H=u_ G N b (C 0) (C 3) (C 4) (C 5) H:=by
 refine aH (aj _) λC H=> ?_
 delta u_;generalize mr G N=a;revert a;refine id ?_;intro a;kernel_rfl
def qQ(G:ai)(N:Nat)(c:aa)(H:ae):O:=a7 H [I J 0,I J 0] λd a=>aZ P .len [9] [c] a λg=>ad (al P .gtr 3 V g (I J 6000)) λe=>ax (D e) (aB a (aA P a 65 d (.agg [I J 4,I J 0])) λb=>ad (ah P b 65 d) λr=>D (.tuple [aa.ar,r],b)) (au a (G 112 [c,I J 0] a) λf b=>mu G N N c d aa.ar f b)
def R9(G:ai)(N:Nat)(b:aa)(H:ae):aD Tryz.f58 G N (aP [b]) H=qQ G N b H:=by
 refine aS (A:=aD Tryz.f58 G N) ((aq j ((aq j ((aq j ((aq j ((aq j (R_ G N) ((aT j ((a8 (k:=λm C H=>mu G N m (C 0) (C 3) (C 4) (C 5) H) j (λC H=>j) (λm=>R8 G N (mu G N m)))))))) (aj _))) (aj _))) (aj _))) (aj _))) ?_;delta qQ;generalize mu G N N=a;revert a;refine id ?_;intro a;kernel_rfl
def qR(G:ai)(a:aa)(H:ae):O:=ad (aL a) λb=>ad (ak P 111 b 3) λc=>ad (ak P 65 c 0) λd=>ad (ah P H 63 d) λe=>ad (al P .eql 63 V e (I J 0)) λf=>D (f,H)
def Sa(G:ai)(N:Nat)(a:aa)(H:ae):aD Tryz.f59 G N (aP [a]) H=qR G a H:=by
 refine aS (A:=aD Tryz.f59 G N) (aj _) ?_;delta qR;kernel_rfl
def qS(G:ai)(d:aa)(H:ae):O:=a7 H [I J 0,X [],I J 0,I J 0] λe f=>ad (aL d) λQ=>ad (ak P 111 Q 1) λR=>ad (ah P f 3 R) λS=>ad (al P .lss 3 V S (I J 0)) λa=>ao a U f (aM d) λT l=>ao a U l (az (aL T)) λs m=>ao a U m (az (ak P 111 s 1)) λt g=>ao a U g (qr (ah P g 3 t)) λu n=>ao a U n (aM d) λv o=>ao a U o (az (aL v)) λw p=>ao a U p (az (ak P 111 w 0)) λx h=>ao a U h (qr (ah P h 106 x)) λj i=>ao a U i (λq=>bH (aW P .empty .len [106] [j]) (aW P i .len [106] [j]) q) λy k=>ao a U k (az (al P .geq 3 U u y)) λz b=>ad (aN a (D (Z V)) (D z)) λA=>ax (D A) (aB b (aA P b 113 e (.agg [I J 0,X [],I J 0,I J 0])) λc=>ad (ah P c 113 e) λr=>D (r,c)) (ad (aL d) λB=>ad (ak P 111 B 0) λC=>ad (ah P b 106 C) λE=>ad (aL d) λF=>ad (ak P 111 F 1) λK=>ad (ah P b 3 K) λL=>ad (aF P 106 E L) λM=>ad (ah P b 113 M) λN=>aB b (aA P b 113 e N) λc=>ad (ah P c 113 e) λr=>D (r,c))
def Sb(G:ai)(N:Nat)(a:aa)(H:ae):aD Tryz.f60 G N (aP [a]) H=qS G a H:=by
 refine aS (A:=aD Tryz.f60 G N) (aj _) ?_;delta qS;kernel_rfl
def mv(G:ai)(m n:aa)(e x:aa)(H:ae):O:=au H (G 59 [m] H) λa f=>ao a V f (az (ak P 113 e 0)) λo c=>ao a V c (qr (ah P c 3 o)) λp g=>ao a V g (aM x) λq h=>ao a V h (az (al P .eql 3 U p q)) λr i=>ad (aN a (D r) (D (Z U))) λb=>ao b V i (az (ak P 113 e 1)) λs d=>ao b V d (qr (ah P d 9 s)) λt j=>ao b V j (aM n) λu k=>ao b V k (az (al P .eql 9 U t u)) λv l=>ad (aN b (D v) (D (Z U))) λw=>D (w,l)
def Sd(G:ai)(N:Nat):∀C H,aE P G N (af (af (af (af (aG Tryz.f61))))) (ay Tryz.f61) [] (ay Tryz.f61) C H=mv G (C 0) (C 1) (C 5) (C 6) H:=by
 refine aH (aj _) λC H=> ?_
 delta mv;kernel_rfl
def qT(G:ai)(c a:aa)(H:ae):O:=au H (G 60 [c] H) λp g=>a7 g [I J 0,X [],I J 0,I J 0] λd e=>aB e (aA P e 113 d p) λh=>ad (cj P 9 a (I J 0)) λk=>ad (al P .geq 5 V k (I .u8 97)) λb=>ao b V h (aM a) λl i=>ao b V i (az (cj P 9 l (I J 0))) λm j=>ao b V j (az (al P .leq 5 V m (I .u8 122))) λn f=>ad (aN b (D n) (D (Z U))) λo=>ax (D o) (mv G c a d (I J 3) f) (mv G c a d (I J 4) f)
def Sc(G:ai)(N:Nat)(b:aa)(c:aa)(H:ae):aD Tryz.f61 G N (aP [b,c]) H=qT G b c H:=by
 refine aS (A:=aD Tryz.f61 G N) ((aq j ((aq j ((aq j ((aq j (Sd G N) (aj _))) (aj _))) (aj _))) (aj _))) ?_;delta qT;generalize mv G=a;revert a;refine id ?_;intro a;kernel_rfl
def qU(G:ai)(b e:aa)(H:ae):O:=au H (G 59 [b] H) λj a=>ax (D j) (au a (G 60 [b] a) λk c=>ad (bp P 113 k 3) λf=>ad (bh P 65 [(0,e),(1,f)]) λg=>ad (aL b) λh=>ad (ak P 111 h 3) λi=>aB c (aA P c 65 i g) λd=>D (.tuple [],d)) (D (.tuple [],a))
def Se(G:ai)(N:Nat)(a:aa)(b:aa)(H:ae):aD Tryz.f62 G N (aP [a,b]) H=qU G a b H:=by
 refine aS (A:=aD Tryz.f62 G N) (aj _) ?_;delta qU;kernel_rfl
def g_(G:ai)(N:Nat)(d c e:aa)(H:ae):O:=au H (G 65 [d,X [125]] H) λg a=>ad (ah P a 118 e) λf=>aB a (aA P a 118 c f) λb=>ad (ah P b 118 c) λr=>D (r,b)
def Sh(G:ai)(N:Nat):∀C H,aE P G N (af (af (af (af (af (aG Tryz.f63)))))) (ay Tryz.f63) [] (ay Tryz.f63) C H=g_ G N (C 0) (C 2) (C 3) H:=by
 refine aH (aj _) λC H=> ?_
 delta g_;kernel_rfl
def va(G:ai)(N:Nat)(s:aa->aa->aa->ae->O)(a l c:aa)(H:ae):O:=au H (G 59 [a] H) λf t=>ao f V t (aM a) λy j=>ao f V j (λq=>bg j (G 61 [y,X [125]] j) q) λz v=>ao f V v (az (bt .not z)) λA k=>ad (aN f (D A) (D (Z U))) λB=>ax (D B) (au k (G 60 [a] k) λC w=>ad (bp P 113 C 0) λE=>ad (al P .eql 3 V E (I J 1)) λe=>ao e V w (az (ak P 118 c 1)) λF o=>ao e V o (qr (ah P o 59 F)) λr p=>ao e V p (λq=>bH (aW P .empty .len [59] [r]) (aW P p .len [59] [r]) q) λK x=>ao e V x (az (al P .eql 3 V K (I J 8))) λL d=>ad (aN e (D L) (D (Z U))) λM=>ax (D M) (au d (G 62 [a,I J 4] d) λW b=>g_ G N a l c b) (au d (G 64 [a] d) λQ b=>ad (ak P 118 c 1) λg=>ad (ah P b 59 g) λh=>aO b (bl P (b).next 59 1 [(0,Q)]) λR i=>au i (bJ P i [59,59] h R) λS m=>ad (ak P 118 c 1) λT=>aB m (aA P m 59 T S) λn=>bif ((aJ (ah P d 59 g) h&&(aJ (ah P b 59 g) h&&(aJ (ah P i 59 g) h&&V)))&&V)then(au n (G 65 [a,X [59]] n) λab u=>s a l c u)else Y)) (g_ G N a l c k)
def mw(G:ai)(N:Nat):Nat->aa->aa->aa->ae->O
 |0,_,_,_,_=>Y
 |n+1,a,b,c,H=>va G N (mw G N n) a b c H
def Sf(G:ai)(N:Nat)(b:aa->aa->aa->ae->O):∀C H,aE P G N (an (an (an (af (af (af (af (aG Tryz.f63)))))))) (λC H=>b (C 0) (C 2) (C 3) H) [(0,(λC H=>g_ G N (C 0) (C 2) (C 3) H))] (ay Tryz.f63) C H=va G N b (C 0) (C 2) (C 3) H:=by
 refine aH (aj _) λC H=> ?_
 delta va;generalize g_ G N=a;revert a;refine id ?_;intro a;kernel_rfl
def qV(G:ai)(N:Nat)(a:aa)(H:ae):O:=a7 H [X [],aa.ar,I J 0] λk c=>au c (G 60 [a] c) λl h=>ad (bp P 113 l 3) λm=>ad (bh P 118 [(2,m)]) λn=>a7 h [X [],aa.ar,I J 0] λb d=>aB d (aA P d 118 b n) λe=>au e (G 114 [a] e) λo f=>ad (ak P 118 b 0) λj=>aB f (aA P f 9 j o) λg=>au g (G 65 [a,X [123]] g) λp i=>mw G N N a k b i
def Sg(G:ai)(N:Nat)(b:aa)(H:ae):aD Tryz.f63 G N (aP [b]) H=qV G N b H:=by
 refine aS (A:=aD Tryz.f63 G N) ((aq j ((aq j ((aq j ((aq j ((aq j (Sh G N) ((aT j ((a8 (k:=λm C H=>mw G N m (C 0) (C 2) (C 3) H) j (λC H=>j) (λm=>Sf G N (mw G N m)))))))) (aj _))) (aj _))) (aj _))) (aj _))) ?_;delta qV;generalize mw G N N=a;revert a;refine id ?_;intro a;kernel_rfl
def qW(G:ai)(a:aa)(H:ae):O:=a7 H [X [],X [],I J 0,I J 0] λl d=>au d (G 60 [a] d) λs m=>ad (bp P 113 s 3) λt=>ad (bh P 123 [(2,t)]) λu=>a7 m [X [],X [],I J 0,I J 0] λb f=>aB f (aA P f 123 b u) λg=>au g (G 114 [a] g) λv h=>ad (ak P 123 b 0) λn=>aB h (aA P h 9 n v) λi=>au i (G 65 [a,X [58]] i) λw j=>au j (G 115 [a] j) λo k=>ad (ak P 123 b 1) λp=>aB k (aA P k 121 p o) λc=>ad (ah P c 123 b) λq=>aB c (aA P c 123 l q) λe=>ad (ah P e 123 l) λr=>D (r,e)
def Si(G:ai)(N:Nat)(a:aa)(H:ae):aD Tryz.f64 G N (aP [a]) H=qW G a H:=by
 refine aS (A:=aD Tryz.f64 G N) (aj _) ?_;delta qW;kernel_rfl
def qX(G:ai)(b d:aa)(H:ae):O:=au H (G 61 [b,d] H) λk a=>ad (bt .not k) λl=>ax (D l) (au a (G 62 [b,I J 2] a) λm c=>D (.tuple [],c)) (ad (aL b) λe=>ad (ak P 111 e 1) λf=>ad (ah P a 3 f) λg=>ad (al P .add 3 V g (I J 1)) λh=>ad (aL b) λi=>ad (ak P 111 i 1) λj=>aB a (aA P a 3 j h) λc=>D (.tuple [],c))
def Sj(G:ai)(N:Nat)(a:aa)(b:aa)(H:ae):aD Tryz.f65 G N (aP [a,b]) H=qX G a b H:=by
 refine aS (A:=aD Tryz.f65 G N) (aj _) ?_;delta qX;kernel_rfl
def mx(G:ai)(N:Nat)(f d e:aa)(H:ae):O:=au H (G 116 [f] H) λg b=>ad (ak P 128 e 4) λh=>aB b (aA P b 126 h g) λa=>ad (ah P a 128 e) λi=>aB a (aA P a 128 d i) λc=>ad (ah P c 128 d) λr=>D (r,c)
def Sn(G:ai)(N:Nat):∀C H,aE P G N (af (af (af (af (af (af (af (aG Tryz.f66)))))))) (ay Tryz.f66) [] (ay Tryz.f66) C H=mx G N (C 0) (C 2) (C 3) H:=by
 refine aH (aj _) λC H=> ?_
 delta mx;kernel_rfl
def ha(G:ai)(N:Nat)(a h c:aa)(H:ae):O:=au H (G 65 [a,X [41]] H) λt d=>au d (G 61 [a,X [58]] d) λj b=>ax (D j) (ad (aL a) λk=>ad (ak P 111 k 1) λl=>ad (ah P b 3 l) λm=>ad (al P .add 3 V m (I J 1)) λn=>ad (aL a) λo=>ad (ak P 111 o 1) λp=>aB b (aA P b 3 p n) λe=>ad (ak P 128 c 2) λq=>aB e (aA P e 4 q (Z V)) λf=>au f (G 115 [a] f) λr g=>ad (ak P 128 c 3) λs=>aB g (aA P g 121 s r) λi=>mx G N a h c i) (mx G N a h c b)
def Sm(G:ai)(N:Nat):∀C H,aE P G N (af (af (af (af (af (aG Tryz.f66)))))) (ay Tryz.f66) [] (ay Tryz.f66) C H=ha G N (C 0) (C 2) (C 3) H:=by
 refine aH ((aq j ((aq j (Sn G N) (aj _))) (aj _))) λC H=> ?_
 delta ha;generalize mx G N=a;revert a;refine id ?_;intro a;kernel_rfl
def vb(G:ai)(N:Nat)(j:aa->aa->aa->ae->O)(a e b:aa)(H:ae):O:=au H (G 59 [a] H) λg w=>ao g V w (aM a) λB n=>ao g V n (λq=>bg n (G 61 [B,X [41]] n) q) λC y=>ao g V y (az (bt .not C)) λE o=>ad (aN g (D E) (D (Z U))) λF=>ax (D F) (au o (G 60 [a] o) λK z=>ad (bp P 113 K 0) λL=>ad (al P .eql 3 V L (I J 1)) λf=>ao f V z (az (ak P 128 b 1)) λM t=>ao f V t (qr (ah P t 59 M)) λv u=>ao f V u (λq=>bH (aW P .empty .len [59] [v]) (aW P u .len [59] [v]) q) λQ A=>ao f V A (az (al P .eql 3 V Q (I J 6))) λR d=>ad (aN f (D R) (D (Z U))) λS=>ax (D S) (au d (G 62 [a,I J 4] d) λap c=>ha G N a e b c) (au d (G 64 [a] d) λT c=>ad (ak P 128 b 1) λh=>ad (ah P c 59 h) λi=>aO c (bl P (c).next 59 1 [(0,T)]) λW k=>au k (bJ P k [59,59] i W) λab p=>ad (ak P 128 b 1) λaf=>aB p (aA P p 59 af ab) λr=>bif ((aJ (ah P d 59 h) i&&(aJ (ah P c 59 h) i&&(aJ (ah P k 59 h) i&&V)))&&V)then(au r (G 61 [a,X [41]] r) λaj l=>ad (bt .not aj) λam=>ax (D am) (au l (G 65 [a,X [44]] l) λaq s=>au s (G 61 [a,X [41]] s) λan m=>ax (D an) (au m (G 62 [a,I J 2] m) λav x=>j a e b x) (j a e b m)) (j a e b l))else Y)) (ha G N a e b o)
def my(G:ai)(N:Nat):Nat->aa->aa->aa->ae->O
 |0,_,_,_,_=>Y
 |n+1,a,b,c,H=>vb G N (my G N n) a b c H
def Sk(G:ai)(N:Nat)(b:aa->aa->aa->ae->O):∀C H,aE P G N (an (an (an (af (af (af (af (aG Tryz.f66)))))))) (λC H=>b (C 0) (C 2) (C 3) H) [(0,(λC H=>ha G N (C 0) (C 2) (C 3) H))] (ay Tryz.f66) C H=vb G N b (C 0) (C 2) (C 3) H:=by
 refine aH (aj _) λC H=> ?_
 delta vb;generalize ha G N=a;revert a;refine id ?_;intro a;kernel_rfl
def qY(G:ai)(N:Nat)(a:aa)(H:ae):O:=a7 H [X [],aa.ar,Z U,X [],I J 0,aa.ar,I J 0] λk c=>au c (G 60 [a] c) λl h=>ad (bp P 113 l 3) λm=>ad (bh P 128 [(5,m)]) λn=>a7 h [X [],aa.ar,Z U,X [],I J 0,aa.ar,I J 0] λb d=>aB d (aA P d 128 b n) λe=>au e (G 114 [a] e) λo f=>ad (ak P 128 b 0) λj=>aB f (aA P f 9 j o) λg=>au g (G 65 [a,X [40]] g) λp i=>my G N N a k b i
def Sl(G:ai)(N:Nat)(b:aa)(H:ae):aD Tryz.f66 G N (aP [b]) H=qY G N b H:=by
 refine aS (A:=aD Tryz.f66 G N) ((aq j ((aq j ((aq j ((aq j ((aq j (Sm G N) ((aT j ((a8 (k:=λm C H=>my G N m (C 0) (C 2) (C 3) H) j (λC H=>j) (λm=>Sk G N (my G N m)))))))) (aj _))) (aj _))) (aj _))) (aj _))) ?_;delta qY;generalize my G N N=a;revert a;refine id ?_;intro a;kernel_rfl
def gP(G:ai)(N:Nat)(a:aa)(H:ae):O:=some (a,H)
def Kj(G:ai)(N:Nat):∀C H,aE P G N (af (af (aG Tryz.f112))) (ay Tryz.f112) [] (ay Tryz.f112) C H=gP G N (C 1) H:=by
 refine aH (aj _) λC H=> ?_
 delta gP;kernel_rfl
def sY(G:ai)(N:Nat)(e:aa->aa->ae->O)(f:aa->aa->ae->O)(b c:aa)(H:ae):O:=aZ P .len [9] [b] H λj=>ad (al P .lss 3 U c j) λa=>ao a V H (aM b) λk g=>ao a V g (aM c) λl h=>ao a V h (az (cj P 9 k l)) λm i=>ao a V i (az (al P .neq 5 V m (I .u8 10))) λn d=>ad (aN a (D n) (D (Z U))) λo=>ax (D o) (ad (al P .add 3 V c (I J 1)) λp=>f b p d) (e b c d)
def h5(G:ai)(N:Nat)(a:aa->aa->ae->O):Nat->aa->aa->ae->O
 |0,_,_,_=>Y
 |n+1,b,c,H=>sY G N a (h5 G N a n) b c H
def Kh(G:ai)(N:Nat)(a:aa->aa->ae->O)(c:aa->aa->ae->O):∀C H,aE P G N (an (an (an (af (af (af (an (an (af (an (an (an (af (aG Tryz.f112)))))))))))))) (λC H=>c (C 0) (C 1) H) [(3,(λC H=>a (C 0) (C 1) H)),(2,(λC H=>a (C 0) (C 1) H)),(1,(λC H=>a (C 0) (C 1) H)),(0,(λC H=>gP G N (C 1) H))] (ay Tryz.f112) C H=sY G N a c (C 0) (C 1) H:=by
 refine aH (aj _) λC H=> ?_
 delta sY;generalize a=b;revert b;refine id ?_;intro b;kernel_rfl
def sX(G:ai)(N:Nat)(h:aa->aa->ae->O)(b a:aa)(H:ae):O:=aZ P .len [9] [b] H λav=>ad (al P .lss 3 U a av) λaw=>ax (D aw) (ad (cj P 9 b a) λz=>ad (al P .eql 5 V z (I .u8 32)) λd=>ao d U H (aM b) λA j=>ao d U j (aM a) λB r=>ao d U r (az (cj P 9 A B)) λC s=>ao d U s (az (al P .eql 5 V C (I .u8 9))) λE t=>ad (aN d (D (Z V)) (D E)) λe=>ao e U t (aM b) λF u=>ao e U u (aM a) λK v=>ao e U v (az (cj P 9 F K)) λL w=>ao e U w (az (al P .eql 5 V L (I .u8 10))) λM x=>ad (aN e (D (Z V)) (D M)) λf=>ao f U x (aM b) λQ y=>ao f U y (aM a) λR k=>ao f U k (az (cj P 9 Q R)) λS l=>ao f U l (az (al P .eql 5 V S (I .u8 13))) λT g=>ad (aN f (D (Z V)) (D T)) λW=>ax (D W) (ad (al P .add 3 V a (I J 1)) λab=>h b ab g) (aZ P .len [9] [b] g λaf=>ad (al P .sub 3 U af a) λah=>ad (al P .geq 3 V ah (I J 2)) λc=>ao c V g (aM b) λaj m=>ao c V m (aM a) λak n=>ao c V n (aM a) λam o=>ao c V o (az (al P .add 3 V am (I J 2))) λan p=>ao c V p (az (c1 P 9 aj (D ak) (D an) Y)) λap q=>ao c V q (az (al P .eql 9 V ap (X [47,47]))) λaq i=>ad (aN c (D aq) (D (Z U))) λau=>ax (D au) (h5 G N h N b a i) (D (a,i)))) (gP G N a H)
def h4(G:ai)(N:Nat):Nat->aa->aa->ae->O
 |0,_,_,_=>Y
 |n+1,a,b,H=>sX G N (h4 G N n) a b H
def Kg(G:ai)(N:Nat)(a:aa->aa->ae->O):∀C H,aE P G N (an (an (an (af (aG Tryz.f112))))) (λC H=>a (C 0) (C 1) H) [(0,(λC H=>gP G N (C 1) H))] (ay Tryz.f112) C H=sX G N a (C 0) (C 1) H:=by
 refine aH ((aq j ((aT j ((aT j ((aq j ((bB j (aj _) ((aq j ((bB j ((aT j ((a8 (k:=λm C H=>h5 G N a m (C 0) (C 1) H) j (λC H=>j) (λm=>Kh G N a (h5 G N a m)))))) (aj _))) (aj _))))) (aj _))))))) (aj _))) λC H=> ?_
 delta sX;generalize gP G N=b;generalize h5 G N a N=c;revert b c;refine id ?_;intro b c;kernel_rfl
def nW(G:ai)(N:Nat)(a b:aa)(H:ae):O:=h4 G N N a b H
def Ki(G:ai)(N:Nat)(b:aa)(c:aa)(H:ae):aD Tryz.f112 G N (aP [b,c]) H=nW G N b c H:=by
 refine aS (A:=aD Tryz.f112 G N) ((aq j ((aq j (Kj G N) ((aT j ((a8 (k:=λm C H=>h4 G N m (C 0) (C 1) H) j (λC H=>j) (λm=>Kg G N (h4 G N m)))))))) (aj _))) ?_;delta nW;generalize h4 G N N=a;revert a;refine id ?_;intro a;kernel_rfl
def nX(G:ai)(e a:aa)(H:ae):O:=a7 H [I J 0,X [],I J 0,I J 0] λc v=>ad (cj P 9 e a) λam=>au v (G 149 [am] v) λan n=>ax (D an) (au n (G 150 [e,a,Z U] n) λt g=>ad (al P .add 3 U a t) λap=>ad (c1 P 9 e (D a) (D ap) Y) λp=>au g (G 151 [p] g) λaq d=>ax (D aq) (ad (bh P 113 [(0,(I J 3)),(1,p),(3,a)]) λav=>aB d (aA P d 113 c av) λb=>ad (ah P b 113 c) λr=>D (.tuple [r,t],b)) (au d (G 152 [p] d) λaw b=>ax (D aw) (ad (bh P 113 [(0,(I J 1)),(1,p),(3,a)]) λay=>aB b (aA P b 113 c ay) λh=>ad (ah P h 113 c) λr=>D (.tuple [r,t],h)) (aB b (aA P b 113 c (.agg [I J 0,X [],I J 0,I J 0])) λh=>ad (ah P h 113 c) λr=>D (.tuple [r,I J 0],h)))) (ad (cj P 9 e a) λaC=>au n (G 153 [aC] n) λaD g=>ax (D aD) (au g (G 150 [e,a,Z V] g) λk d=>ad (al P .add 3 U a k) λaE=>ad (c1 P 9 e (D a) (D aE) Y) λaF=>au d (G 154 [aF] d) λx b=>ad (bG x 0) λaG=>ad (bG x 1) λaH=>ad (bt .not aH) λl=>ao l U b (aM k) λaI h=>ao l U h (az (al P .gtr 3 V aI (I J 1))) λaJ ab=>ao l U ab (aM aJ) λm af=>ao m V af (aM e) λaK aj=>ao m V aj (aM a) λaL z=>ao m V z (az (cj P 9 aK aL)) λaO A=>ao m V A (az (al P .eql 5 V aO (I .u8 48))) λaP B=>ao l U B (az (aN m (D aP) (D (Z U)))) λaQ C=>ad (aN l (D (Z V)) (D aQ)) λf=>ao f U C (aM a) λaR E=>ao f U E (aM k) λaS F=>ao f U F (az (al P .add 3 U aR aS)) λaT K=>ao f U K (aM e) λy w=>ao f U w (λq=>bH (aW P .empty .len [9] [y]) (aW P w .len [9] [y]) q) λaU L=>ao f U L (az (al P .lss 3 U aT aU)) λaV M=>ao f U M (aM aV) λi N=>ao i V N (aM e) λaX Q=>ao i V Q (aM a) λaY R=>ao i V R (aM k) λa0 S=>ao i V S (az (al P .add 3 U aY a0)) λa1 T=>ao i V T (az (cj P 9 aX a1)) λa2 s=>ao i V s (λq=>bg s (G 149 [a2] s) q) λa3 W=>ao f U W (az (aN i (D a3) (D (Z U)))) λa4 o=>ad (aN f (D (Z V)) (D a4)) λa5=>ax (D a5) (aB o (aA P o 113 c (.agg [I J 0,X [],I J 0,I J 0])) λj=>ad (ah P j 113 c) λr=>D (.tuple [r,I J 0],j)) (ad (bh P 113 [(0,(I J 2)),(2,aG),(3,a)]) λa6=>aB o (aA P o 113 c a6) λj=>ad (ah P j 113 c) λr=>D (.tuple [r,k],j))) (au g (G 155 [e,a] g) λu d=>ad (al P .eql 9 V u (X [])) λa8=>ax (D a8) (aB d (aA P d 113 c (.agg [I J 0,X [],I J 0,I J 0])) λb=>ad (ah P b 113 c) λr=>D (.tuple [r,I J 0],b)) (ad (bh P 113 [(0,(I J 4)),(1,u),(3,a)]) λa9=>aZ P .len [9] [u] d λak=>aB d (aA P d 113 c a9) λb=>ad (ah P b 113 c) λr=>D (.tuple [r,ak],b))))
def Kk(G:ai)(N:Nat)(a:aa)(b:aa)(H:ae):aD Tryz.f113 G N (aP [a,b]) H=nX G a b H:=by
 refine aS (A:=aD Tryz.f113 G N) (aj _) ?_;delta nX;kernel_rfl
def nY(G:ai)(b:aa)(H:ae):O:=au H (G 60 [b] H) λw i=>a7 i [I J 0,X [],I J 0,I J 0] λe f=>aB f (aA P f 113 e w) λg=>au g (G 59 [b] g) λd j=>ao d V j (az (ak P 113 e 0)) λx h=>ao d V h (qr (ah P h 3 x)) λl k=>ao d V k (az (al P .eql 3 V l (I J 1))) λm a=>ad (aN d (D m) (D (Z U))) λn=>ax (D n) (ad (aL b) λo=>ad (ak P 111 o 1) λp=>ad (ah P a 3 p) λq=>ad (al P .add 3 V q (I J 1)) λr=>ad (aL b) λs=>ad (ak P 111 s 1) λt=>aB a (aA P a 3 t r) λc=>ad (ak P 113 e 1) λu=>ad (ah P c 9 u) λv=>D (v,c)) (au a (G 62 [b,I J 2] a) λy c=>D ((X []),c))
def Kl(G:ai)(N:Nat)(a:aa)(H:ae):aD Tryz.f114 G N (aP [a]) H=nY G a H:=by
 refine aS (A:=aD Tryz.f114 G N) (aj _) ?_;delta nY;kernel_rfl
def h7(G:ai)(N:Nat)(b c:aa)(H:ae):O:=ad (ah P H 121 c) λd=>aB H (aA P H 121 b d) λa=>ad (ah P a 121 b) λr=>D (r,a)
def Kr(G:ai)(N:Nat):∀C H,aE P G N (af (af (af (af (af (af (aG Tryz.f115))))))) (ay Tryz.f115) [] (ay Tryz.f115) C H=h7 G N (C 2) (C 4) H:=by
 refine aH (aj _) λC H=> ?_
 delta h7;kernel_rfl
def sZ(G:ai)(N:Nat)(f:aa->aa->aa->aa->aa->ae->O)(a b:aa)(c d e:aa)(H:ae):O:=ad (al P .lss 3 U e c) λh=>ax (D h) (au H (G 65 [a,X [93]] H) λj g=>ad (al P .add 3 V e (I J 1)) λi=>f a b c d i g) (h7 G N b d H)
def h9(G:ai)(N:Nat):Nat->aa->aa->aa->aa->aa->ae->O
 |0,_,_,_,_,_,_=>Y
 |n+1,a,b,c,d,e,H=>sZ G N (h9 G N n) a b c d e H
def Km(G:ai)(N:Nat)(b:aa->aa->aa->aa->aa->ae->O):∀C H,aE P G N (an (an (af (an (af (af (af (af (af (aG Tryz.f115)))))))))) (λC H=>b (C 0) (C 2) (C 3) (C 4) (C 5) H) [(3,(λC H=>h7 G N (C 2) (C 4) H))] (ay Tryz.f115) C H=sZ G N b (C 0) (C 2) (C 3) (C 4) (C 5) H:=by
 refine aH (aj _) λC H=> ?_
 delta sZ;generalize h7 G N=a;revert a;refine id ?_;intro a;kernel_rfl
def fI(G:ai)(N:Nat)(a b:aa)(c d:aa)(H:ae):O:=h9 G N N a b c d (I J 0) H
def Kq(G:ai)(N:Nat):∀C H,aE P G N (af (af (af (af (af (aG Tryz.f115)))))) (ay Tryz.f115) [] (ay Tryz.f115) C H=fI G N (C 0) (C 2) (C 3) (C 4) H:=by
 refine aH ((aq j (Kr G N) ((aq j ((aT j ((a8 (k:=λm C H=>h9 G N m (C 0) (C 2) (C 3) (C 4) (C 5) H) j (λC H=>j) (λm=>Km G N (h9 G N m)))))) (aj _))))) λC H=> ?_
 delta fI;generalize h9 G N N=a;revert a;refine id ?_;intro a;kernel_rfl
def h8(G:ai)(N:Nat)(a e:aa)(f d j:aa)(H:ae):O:=ax (D j) (au H (G 60 [a] H) λk b=>ad (bp P 113 k 1) λl=>ad (ak P 121 d 0) λm=>aB b (aA P b 9 m l) λc=>ad (aL a) λn=>ad (ak P 111 n 1) λo=>ad (ah P c 3 o) λp=>ad (al P .add 3 V p (I J 1)) λq=>ad (aL a) λr=>ad (ak P 111 r 1) λs=>aB c (aA P c 3 s q) λg=>fI G N a e f d g) (au H (G 114 [a] H) λh b=>ad (ak P 121 d 0) λi=>aB b (aA P b 9 i h) λc=>fI G N a e f d c)
def Ks(G:ai)(N:Nat):∀C H,aE P G N (af (an (an (af (af (af (af (aG Tryz.f115)))))))) (λC H=>fI G N (C 0) (C 2) (C 3) (C 4) H) [(2,(λC H=>fI G N (C 0) (C 2) (C 3) (C 4) H))] (ay Tryz.f115) C H=h8 G N (C 0) (C 2) (C 3) (C 4) (C 27) H:=by
 refine aH (aj _) λC H=> ?_
 delta h8;generalize fI G N=a;revert a;refine id ?_;intro a;kernel_rfl
def h6(G:ai)(N:Nat)(a g c:aa)(H:ae):O:=ad (bh P 121 [(1,c)]) λj=>a7 H [X [],I J 0] λd e=>aB e (aA P e 121 d j) λf=>au f (G 61 [a,X [105,110,116]] f) λh b=>ax (D h) (h8 G N a g c d h b) (au b (G 61 [a,X [98,111,111,108]] b) λk i=>h8 G N a g c d k i)
def Kp(G:ai)(N:Nat):∀C H,aE P G N (af (af (af (aG Tryz.f115)))) (ay Tryz.f115) [] (ay Tryz.f115) C H=h6 G N (C 0) (C 2) (C 3) H:=by
 refine aH ((aq j ((aq j (Kq G N) ((aT j ((aq j (Ks G N) (aj _))))))) (aj _))) λC H=> ?_
 delta h6;generalize h8 G N=a;revert a;refine id ?_;intro a;kernel_rfl
def s0(G:ai)(N:Nat)(g:aa->aa->aa->ae->O)(b d e:aa)(H:ae):O:=au H (G 61 [b,X [91]] H) λo a=>ax (D o) (ad (al P .eql 3 V e (I J 3)) λp=>ax (D p) (au a (G 62 [b,I J 4] a) λq c=>aB c (aA P c 121 d (.agg [X [],I J 0])) λf=>ad (ah P f 121 d) λr=>D (r,f)) (ad (aL b) λh=>ad (ak P 111 h 1) λi=>ad (ah P a 3 i) λj=>ad (al P .add 3 V j (I J 1)) λk=>ad (aL b) λl=>ad (ak P 111 l 1) λm=>aB a (aA P a 3 m k) λc=>ad (al P .add 3 V e (I J 1)) λn=>g b d n c)) (h6 G N b d e a)
def h_(G:ai)(N:Nat):Nat->aa->aa->aa->ae->O
 |0,_,_,_,_=>Y
 |n+1,a,b,c,H=>s0 G N (h_ G N n) a b c H
def Kn(G:ai)(N:Nat)(b:aa->aa->aa->ae->O):∀C H,aE P G N (an (an (an (af (af (aG Tryz.f115)))))) (λC H=>b (C 0) (C 2) (C 3) H) [(0,(λC H=>h6 G N (C 0) (C 2) (C 3) H))] (ay Tryz.f115) C H=s0 G N b (C 0) (C 2) (C 3) H:=by
 refine aH (aj _) λC H=> ?_
 delta s0;generalize h6 G N=a;revert a;refine id ?_;intro a;kernel_rfl
def nZ(G:ai)(N:Nat)(b:aa)(H:ae):O:=a7 H [X [],I J 0] λc a=>h_ G N N b c (I J 0) a
def Ko(G:ai)(N:Nat)(b:aa)(H:ae):aD Tryz.f115 G N (aP [b]) H=nZ G N b H:=by
 refine aS (A:=aD Tryz.f115 G N) ((aq j ((aq j ((aq j (Kp G N) ((aT j ((a8 (k:=λm C H=>h_ G N m (C 0) (C 2) (C 3) H) j (λC H=>j) (λm=>Kn G N (h_ G N m)))))))) (aj _))) (aj _))) ?_;delta nZ;generalize h_ G N N=a;revert a;refine id ?_;intro a;kernel_rfl
def ia(G:ai)(N:Nat)(b c:aa)(H:ae):O:=au H (G 158 [b,X [125]] H) λd a=>D (c,a)
def Kv(G:ai)(N:Nat):∀C H,aE P G N (af (af (af (af (aG Tryz.f116))))) (ay Tryz.f116) [] (ay Tryz.f116) C H=ia G N (C 0) (C 3) H:=by
 refine aH (aj _) λC H=> ?_
 delta ia;kernel_rfl
def s3(G:ai)(N:Nat)(h:aa->aa->ae->O)(a g:aa)(H:ae):O:=au H (G 59 [a] H) λb i=>ao b V i (aM a) λs c=>ao b V c (λq=>bg c (G 61 [s,X [125]] c) q) λl j=>ao b V j (az (bt .not l)) λm d=>ad (aN b (D m) (D (Z U))) λn=>ax (D n) (au d (G 157 [a] d) λo e=>aO e (bl P (e).next 126 1 [(0,o)]) λp f=>au f (bJ P f [126,126] g p) λr k=>h a r k) (ia G N a g d)
def ib(G:ai)(N:Nat):Nat->aa->aa->ae->O
 |0,_,_,_=>Y
 |n+1,a,b,H=>s3 G N (ib G N n) a b H
def Kt(G:ai)(N:Nat)(b:aa->aa->ae->O):∀C H,aE P G N (an (an (an (af (af (af (aG Tryz.f116))))))) (λC H=>b (C 0) (C 3) H) [(0,(λC H=>ia G N (C 0) (C 3) H))] (ay Tryz.f116) C H=s3 G N b (C 0) (C 3) H:=by
 refine aH (aj _) λC H=> ?_
 delta s3;generalize ia G N=a;revert a;refine id ?_;intro a;kernel_rfl
def n0(G:ai)(N:Nat)(a:aa)(H:ae):O:=au H (G 156 [a,X [123]] H) λc b=>ib G N N a aa.ar b
def Ku(G:ai)(N:Nat)(b:aa)(H:ae):aD Tryz.f116 G N (aP [b]) H=n0 G N b H:=by
 refine aS (A:=aD Tryz.f116 G N) ((aq j ((aq j ((aq j ((aq j (Kv G N) ((aT j ((a8 (k:=λm C H=>ib G N m (C 0) (C 3) H) j (λC H=>j) (λm=>Kt G N (ib G N m)))))))) (aj _))) (aj _))) (aj _))) ?_;delta n0;generalize ib G N N=a;revert a;refine id ?_;intro a;kernel_rfl
def oA(G:ai)(b:aa)(H:ae):O:=ad (al P .geq 5 V b (I .u8 97)) λd=>ao d V H (aM b) λs e=>ao d V e (az (al P .leq 5 V s (I .u8 122))) λt f=>ad (aN d (D t) (D (Z U))) λa=>ao a U f (aM b) λm g=>ao a U g (az (al P .geq 5 V m (I .u8 65))) λn h=>ao a U h (aM n) λc i=>ao c V i (aM b) λo j=>ao c V j (az (al P .leq 5 V o (I .u8 90))) λp k=>ao a U k (az (aN c (D p) (D (Z U)))) λq l=>ad (aN a (D (Z V)) (D q)) λr=>D (r,l)
def L3(G:ai)(N:Nat)(a:aa)(H:ae):aD Tryz.f149 G N (aP [a]) H=oA G a H:=by
 refine aS (A:=aD Tryz.f149 G N) (aj _) ?_;delta oA;kernel_rfl
def jq(G:ai)(N:Nat)(a:aa)(H:ae):O:=some (a,H)
def L7(G:ai)(N:Nat):∀C H,aE P G N (af (af (af (aG Tryz.f150)))) (ay Tryz.f150) [] (ay Tryz.f150) C H=jq G N (C 7) H:=by
 refine aH (aj _) λC H=> ?_
 delta jq;kernel_rfl
def tB(G:ai)(N:Nat)(k:aa->aa->aa->aa->ae->O)(e f:aa)(j d:aa)(H:ae):O:=ad (al P .add 3 U f d) λB=>aZ P .len [9] [e] H λC=>ad (al P .lss 3 U B C) λa=>ao a V H (aM e) λE l=>ao a V l (aM f) λF u=>ao a V u (aM d) λK v=>ao a V v (az (al P .add 3 U F K)) λL w=>ao a V w (az (cj P 9 E L)) λM h=>ao a V h (λq=>bg h (G 153 [M] h) q) λQ x=>ao a V x (aM Q) λc y=>ao c U y (aM j) λR z=>ao c U z (az (bt .not R)) λS A=>ao c U A (aM S) λb m=>ao b V m (aM e) λT n=>ao b V n (aM f) λW o=>ao b V o (aM d) λab p=>ao b V p (az (al P .add 3 U W ab)) λaf r=>ao b V r (az (cj P 9 T af)) λah g=>ao b V g (λq=>bg g (G 149 [ah] g) q) λaj s=>ao c U s (az (aN b (D aj) (D (Z U)))) λak t=>ao a V t (az (aN c (D (Z V)) (D ak))) λam i=>ad (aN a (D am) (D (Z U))) λan=>ax (D an) (ad (al P .add 3 V d (I J 1)) λap=>k e f j ap i) (jq G N d i)
def jr(G:ai)(N:Nat):Nat->aa->aa->aa->aa->ae->O
 |0,_,_,_,_,_=>Y
 |n+1,a,b,c,d,H=>tB G N (jr G N n) a b c d H
def L5(G:ai)(N:Nat)(b:aa->aa->aa->aa->ae->O):∀C H,aE P G N (an (an (an (af (af (aG Tryz.f150)))))) (λC H=>b (C 0) (C 1) (C 2) (C 7) H) [(0,(λC H=>jq G N (C 7) H))] (ay Tryz.f150) C H=tB G N b (C 0) (C 1) (C 2) (C 7) H:=by
 refine aH (aj _) λC H=> ?_
 delta tB;generalize jq G N=a;revert a;refine id ?_;intro a;kernel_rfl
def oB(G:ai)(N:Nat)(a b c:aa)(H:ae):O:=jr G N N a b c (I J 0) H
def L6(G:ai)(N:Nat)(b:aa)(c:aa)(d:aa)(H:ae):aD Tryz.f150 G N (aP [b,c,d]) H=oB G N b c d H:=by
 refine aS (A:=aD Tryz.f150 G N) ((aq j ((aq j ((aq j (L7 G N) ((aT j ((a8 (k:=λm C H=>jr G N m (C 0) (C 1) (C 2) (C 7) H) j (λC H=>j) (λm=>L5 G N (jr G N m)))))))) (aj _))) (aj _))) ?_;delta oB;generalize jr G N N=a;revert a;refine id ?_;intro a;kernel_rfl
def js(G:ai)(N:Nat)(H:ae):O:=some ((Z U),H)
def L_(G:ai)(N:Nat):∀C H,aE P G N (af (af (af (aG Tryz.f151)))) (ay Tryz.f151) [] (ay Tryz.f151) C H=js G N H:=by
 refine aH (aj _) λC H=> ?_
 delta js;kernel_rfl
def tC(G:ai)(N:Nat)(d:aa->aa->aa->ae->O)(c a b:aa)(H:ae):O:=aZ P .len [57] [a] H λi=>ad (al P .lss 3 U b i) λj=>ax (D j) (ad (aF P 57 a b) λf=>ad (ah P H 9 f) λg=>ad (al P .eql 9 U g c) λh=>ax (D h) (D ((Z V),H)) (ad (al P .add 3 V b (I J 1)) λe=>d c a e H)) (js G N H)
def jt(G:ai)(N:Nat):Nat->aa->aa->aa->ae->O
 |0,_,_,_,_=>Y
 |n+1,a,b,c,H=>tC G N (jt G N n) a b c H
def L8(G:ai)(N:Nat)(b:aa->aa->aa->ae->O):∀C H,aE P G N (an (an (af (an (af (af (aG Tryz.f151))))))) (λC H=>b (C 0) (C 3) (C 4) H) [(0,(λC H=>js G N H))] (ay Tryz.f151) C H=tC G N b (C 0) (C 3) (C 4) H:=by
 refine aH (aj _) λC H=> ?_
 delta tC;generalize js G N=a;revert a;refine id ?_;intro a;kernel_rfl
def oC(G:ai)(N:Nat)(b:aa)(H:ae):O:=au H (G 206 [] H) λc a=>jt G N N b c (I J 0) a
def L9(G:ai)(N:Nat)(b:aa)(H:ae):aD Tryz.f151 G N (aP [b]) H=oC G N b H:=by
 refine aS (A:=aD Tryz.f151 G N) ((aq j ((aq j ((aq j (L_ G N) ((aq j ((aT j ((a8 (k:=λm C H=>jt G N m (C 0) (C 3) (C 4) H) j (λC H=>j) (λm=>L8 G N (jt G N m)))))) (aj _))))) (aj _))) (aj _))) ?_;delta oC;generalize jt G N N=a;revert a;refine id ?_;intro a;kernel_rfl
def ju(G:ai)(N:Nat)(H:ae):O:=some ((Z V),H)
def Mc(G:ai)(N:Nat):∀C H,aE P G N (af (af (af (aG Tryz.f152)))) (ay Tryz.f152) [] (ay Tryz.f152) C H=ju G N H:=by
 refine aH (aj _) λC H=> ?_
 delta ju;kernel_rfl
def tD(G:ai)(N:Nat)(f:aa->aa->ae->O)(b c:aa)(H:ae):O:=aZ P .len [9] [b] H λk=>ad (al P .lss 3 U c k) λl=>ax (D l) (ad (cj P 9 b c) λn=>au H (G 149 [n] H) λo g=>ad (bt .not o) λa=>ao a V g (aM b) λp h=>ao a V h (aM c) λr i=>ao a V i (az (cj P 9 p r)) λs d=>ao a V d (λq=>bg d (G 153 [s] d) q) λt j=>ao a V j (az (bt .not t)) λu e=>ad (aN a (D u) (D (Z U))) λv=>ax (D v) (D ((Z U),e)) (ad (al P .add 3 V c (I J 1)) λm=>f b m e)) (ju G N H)
def jv(G:ai)(N:Nat):Nat->aa->aa->ae->O
 |0,_,_,_=>Y
 |n+1,a,b,H=>tD G N (jv G N n) a b H
def Ma(G:ai)(N:Nat)(b:aa->aa->ae->O):∀C H,aE P G N (an (an (af (an (af (af (aG Tryz.f152))))))) (λC H=>b (C 0) (C 3) H) [(0,(λC H=>ju G N H))] (ay Tryz.f152) C H=tD G N b (C 0) (C 3) H:=by
 refine aH (aj _) λC H=> ?_
 delta tD;generalize ju G N=a;revert a;refine id ?_;intro a;kernel_rfl
def oD(G:ai)(N:Nat)(a:aa)(H:ae):O:=aZ P .len [9] [a] H λx=>ad (al P .lss 3 V x (I J 1)) λc=>ao c U H (aM a) λi g=>ao c U g (λq=>bH (aW P .empty .len [9] [i]) (aW P g .len [9] [i]) q) λy j=>ao c U j (az (al P .gtr 3 V y (I J 8))) λo k=>ad (aN c (D (Z V)) (D o)) λb=>ao b U k (aM a) λp l=>ao b U l (az (cj P 9 p (I J 0))) λr d=>ao b U d (λq=>bg d (G 149 [r] d) q) λs m=>ao b U m (az (bt .not s)) λt n=>ad (aN b (D (Z V)) (D t)) λf=>ao f U n (aM a) λu e=>ao f U e (λq=>bg e (G 151 [u] e) q) λv h=>ad (aN f (D (Z V)) (D v)) λw=>ax (D w) (D ((Z U),h)) (jv G N N a (I J 0) h)
def Mb(G:ai)(N:Nat)(b:aa)(H:ae):aD Tryz.f152 G N (aP [b]) H=oD G N b H:=by
 refine aS (A:=aD Tryz.f152 G N) ((aq j ((aq j ((aq j (Mc G N) ((aq j ((aT j ((a8 (k:=λm C H=>jv G N m (C 0) (C 3) H) j (λC H=>j) (λm=>Ma G N (jv G N m)))))) (aj _))))) (aj _))) (aj _))) ?_;delta oD;generalize jv G N N=a;revert a;refine id ?_;intro a;kernel_rfl
def oE(G:ai)(b:aa)(H:ae):O:=ad (al P .geq 5 V b (I .u8 48)) λa=>ao a V H (aM b) λe c=>ao a V c (az (al P .leq 5 V e (I .u8 57))) λf d=>ad (aN a (D f) (D (Z U))) λg=>D (g,d)
def Md(G:ai)(N:Nat)(a:aa)(H:ae):aD Tryz.f153 G N (aP [a]) H=oE G a H:=by
 refine aS (A:=aD Tryz.f153 G N) (aj _) ?_;delta oE;kernel_rfl
def jw(G:ai)(N:Nat)(a:aa)(H:ae):O:=some (.tuple [a,Z V],H)
def Mg(G:ai)(N:Nat):∀C H,aE P G N (af (af (af (aG Tryz.f154)))) (ay Tryz.f154) [] (ay Tryz.f154) C H=jw G N (C 4) H:=by
 refine aH (aj _) λC H=> ?_
 delta jw;kernel_rfl
def tE(G:ai)(N:Nat)(e:aa->aa->aa->ae->O)(a b c:aa)(H:ae):O:=aZ P .len [9] [a] H λo=>ad (al P .lss 3 U c o) λf=>ax (D f) (ad (cj P 9 a c) λh=>ad (al P .sub 5 V h (I .u8 48)) λi=>ec P 5 3 i H λd=>ad (al P .sub 3 V (I J 9223372036854775807) d) λj=>ad (al P .quo 3 V j (I J 10)) λk=>ad (al P .gtr 3 U b k) λl=>ax (D l) (D (.tuple [I J 0,Z U],H)) (ad (al P .mul 3 V (I J 10) b) λm=>ad (al P .add 3 U m d) λn=>ad (al P .add 3 V c (I J 1)) λg=>e a n g H)) (jw G N b H)
def jx(G:ai)(N:Nat):Nat->aa->aa->aa->ae->O
 |0,_,_,_,_=>Y
 |n+1,a,b,c,H=>tE G N (jx G N n) a b c H
def Me(G:ai)(N:Nat)(b:aa->aa->aa->ae->O):∀C H,aE P G N (an (an (af (an (af (af (aG Tryz.f154))))))) (λC H=>b (C 0) (C 4) (C 5) H) [(0,(λC H=>jw G N (C 4) H))] (ay Tryz.f154) C H=tE G N b (C 0) (C 4) (C 5) H:=by
 refine aH (aj _) λC H=> ?_
 delta tE;generalize jw G N=a;revert a;refine id ?_;intro a;kernel_rfl
def oF(G:ai)(N:Nat)(a:aa)(H:ae):O:=jx G N N a (I J 0) (I J 0) H
def Mf(G:ai)(N:Nat)(b:aa)(H:ae):aD Tryz.f154 G N (aP [b]) H=oF G N b H:=by
 refine aS (A:=aD Tryz.f154 G N) ((aq j ((aq j ((aq j (Mg G N) ((aq j ((aT j ((a8 (k:=λm C H=>jx G N m (C 0) (C 4) (C 5) H) j (λC H=>j) (λm=>Me G N (jx G N m)))))) (aj _))))) (aj _))) (aj _))) ?_;delta oF;generalize jx G N N=a;revert a;refine id ?_;intro a;kernel_rfl
def jz(G:ai)(N:Nat)(H:ae):O:=some ((X []),H)
def Ml(G:ai)(N:Nat):∀C H,aE P G N (af (af (af (af (af (aG Tryz.f155)))))) (ay Tryz.f155) [] (ay Tryz.f155) C H=jz G N H:=by
 refine aH (aj _) λC H=> ?_
 delta jz;kernel_rfl
def tF(G:ai)(N:Nat)(e:aa->aa->aa->aa->ae->O)(c d:aa)(b a:aa)(H:ae):O:=aZ P .len [9] [b] H λf=>ad (al P .lss 3 U a f) λg=>ax (D g) (ad (cj P 9 c d) λi=>ad (cj P 9 b a) λj=>ad (al P .eql 5 U i j) λk=>ax (D k) (ad (al P .add 3 V a (I J 1)) λl=>ad (c1 P 9 b (D a) (D l) Y) λm=>D (m,H)) (ad (al P .add 3 V a (I J 1)) λh=>e c d b h H)) (jz G N H)
def jA(G:ai)(N:Nat):Nat->aa->aa->aa->aa->ae->O
 |0,_,_,_,_,_=>Y
 |n+1,a,b,c,d,H=>tF G N (jA G N n) a b c d H
def Mh(G:ai)(N:Nat)(b:aa->aa->aa->aa->ae->O):∀C H,aE P G N (an (an (af (an (af (af (af (af (aG Tryz.f155))))))))) (λC H=>b (C 0) (C 1) (C 7) (C 8) H) [(2,(λC H=>jz G N H))] (ay Tryz.f155) C H=tF G N b (C 0) (C 1) (C 7) (C 8) H:=by
 refine aH (aj _) λC H=> ?_
 delta tF;generalize jz G N=a;revert a;refine id ?_;intro a;kernel_rfl
def jy(G:ai)(N:Nat)(a b:aa)(H:ae):O:=jA G N N a b (X [123,125,40,41,91,93,59,58,44,46,61,43,45,42,47,37,60,33]) (I J 0) H
def Mk(G:ai)(N:Nat):∀C H,aE P G N (af (af (af (aG Tryz.f155)))) (ay Tryz.f155) [] (ay Tryz.f155) C H=jy G N (C 0) (C 1) H:=by
 refine aH ((aq j ((aq j (Ml G N) ((aq j ((aT j ((a8 (k:=λm C H=>jA G N m (C 0) (C 1) (C 7) (C 8) H) j (λC H=>j) (λm=>Mh G N (jA G N m)))))) (aj _))))) (aj _))) λC H=> ?_
 delta jy;generalize jA G N N=a;revert a;refine id ?_;intro a;kernel_rfl
def tG(G:ai)(N:Nat)(h:aa->aa->aa->aa->ae->O)(c b:aa)(d e:aa)(H:ae):O:=aZ P .len [57] [d] H λq=>ad (al P .lss 3 U e q) λr=>ax (D r) (aZ P .len [9] [c] H λt=>ad (al P .sub 3 U t b) λu=>ad (al P .geq 3 V u (I J 2)) λa=>ao a V H (aM c) λv i=>ao a V i (aM b) λw j=>ao a V j (aM b) λx k=>ao a V k (az (al P .add 3 V x (I J 2))) λy l=>ao a V l (az (c1 P 9 v (D w) (D y) Y)) λz m=>ao a V m (aM d) λA n=>ao a V n (aM e) λB o=>ao a V o (az (aF P 57 A B)) λC g=>ao a V g (qr (ah P g 9 C)) λE p=>ao a V p (az (al P .eql 9 U z E)) λF f=>ad (aN a (D F) (D (Z U))) λK=>ax (D K) (ad (aF P 57 d e) λL=>ad (ah P f 9 L) λM=>D (M,f)) (ad (al P .add 3 V e (I J 1)) λs=>h c b d s f)) (jy G N c b H)
def jB(G:ai)(N:Nat):Nat->aa->aa->aa->aa->ae->O
 |0,_,_,_,_,_=>Y
 |n+1,a,b,c,d,H=>tG G N (jB G N n) a b c d H
def Mi(G:ai)(N:Nat)(b:aa->aa->aa->aa->ae->O):∀C H,aE P G N (an (an (af (an (af (af (aG Tryz.f155))))))) (λC H=>b (C 0) (C 1) (C 5) (C 6) H) [(0,(λC H=>jy G N (C 0) (C 1) H))] (ay Tryz.f155) C H=tG G N b (C 0) (C 1) (C 5) (C 6) H:=by
 refine aH (aj _) λC H=> ?_
 delta tG;generalize jy G N=a;revert a;refine id ?_;intro a;kernel_rfl
def oG(G:ai)(N:Nat)(b c:aa)(H:ae):O:=aO H (D (.ag (H).next 0 5 1 (D 5),.row U 1 [[X [60,61]],[X [61,61]],[X [33,61]],[X [38,38]],[X [124,124]]])) λd a=>jB G N N b c d (I J 0) a
def Mj(G:ai)(N:Nat)(b:aa)(c:aa)(H:ae):aD Tryz.f155 G N (aP [b,c]) H=oG G N b c H:=by
 refine aS (A:=aD Tryz.f155 G N) ((aq j ((aq j ((aq j (Mk G N) ((aq j ((aT j ((a8 (k:=λm C H=>jB G N m (C 0) (C 1) (C 5) (C 6) H) j (λC H=>j) (λm=>Mi G N (jB G N m)))))) (aj _))))) (aj _))) (aj _))) ?_;delta oG;generalize jB G N N=a;revert a;refine id ?_;intro a;kernel_rfl
def oH(G:ai)(a f:aa)(H:ae):O:=au H (G 61 [a,f] H) λb g=>ao b V g (aM a) λv h=>ao b V h (az (aL v)) λw i=>ao b V i (az (ak P 111 w 2)) λl e=>ao b V e (qr (ah P e 3 l)) λm j=>ao b V j (az (al P .geq 3 V m (I J 50))) λn d=>ad (aN b (D n) (D (Z U))) λo=>ax (D o) (au d (G 62 [a,I J 4] d) λx c=>D (.tuple [],c)) (au d (G 65 [a,f] d) λy c=>ad (aL a) λp=>ad (ak P 111 p 2) λq=>ad (ah P c 3 q) λr=>ad (al P .add 3 V r (I J 1)) λs=>ad (aL a) λt=>ad (ak P 111 t 2) λu=>aB c (aA P c 3 u s) λk=>D (.tuple [],k))
def Mm(G:ai)(N:Nat)(a:aa)(b:aa)(H:ae):aD Tryz.f156 G N (aP [a,b]) H=oH G a b H:=by
 refine aS (A:=aD Tryz.f156 G N) (aj _) ?_;delta oH;kernel_rfl
def cQ(G:ai)(b d:aa)(H:ae):O:=ad (ah P H 192 d) λc=>aB H (aA P H 192 b c) λa=>ad (ah P a 192 b) λr=>D (r,a)
def Mo(G:ai)(N:Nat):∀C H,aE P G N (af (af (af (af (aG Tryz.f157))))) (ay Tryz.f157) [] (ay Tryz.f157) C H=cQ G (C 2) (C 4) H:=by
 refine aH (aj _) λC H=> ?_
 delta cQ;kernel_rfl
def jD(G:ai)(b c d:aa)(H:ae):O:=au H (G 65 [b,X [59]] H) λe a=>cQ G c d a
def Mq(G:ai)(N:Nat):∀C H,aE P G N (af (af (af (af (af (af (an (af (an (an (af (af (af (aG Tryz.f157)))))))))))))) (λC H=>cQ G (C 2) (C 4) H) [(0,(λC H=>cQ G (C 2) (C 4) H))] (ay Tryz.f157) C H=jD G (C 0) (C 2) (C 4) H:=by
 refine aH (aj _) λC H=> ?_
 delta jD;generalize cQ G=a;revert a;refine id ?_;intro a;kernel_rfl
def jE(G:ai)(b c d:aa)(H:ae):O:=au H (G 65 [b,X [59]] H) λe a=>cQ G c d a
def Mr(G:ai)(N:Nat):∀C H,aE P G N (af (af (af (an (af (af (af (af (af (af (af (an (an (af (af (af (aG Tryz.f157))))))))))))))))) (λC H=>cQ G (C 2) (C 4) H) [(0,(λC H=>cQ G (C 2) (C 4) H))] (ay Tryz.f157) C H=jE G (C 0) (C 2) (C 4) H:=by
 refine aH (aj _) λC H=> ?_
 delta jE;generalize cQ G=a;revert a;refine id ?_;intro a;kernel_rfl
def jC(G:ai)(a k:aa)(aw b W:aa)(H:ae):O:=ax (D W) (ad (aL a) λab=>ad (ak P 111 ab 1) λaf=>ad (ah P H 3 af) λaj=>ad (al P .add 3 V aj (I J 1)) λam=>ad (aL a) λan=>ad (ak P 111 an 1) λao=>aB H (aA P H 3 ao am) λl=>ad (ak P 192 b 0) λap=>aB l (aA P l 3 ap (I J 1)) λj=>au j (G 114 [a] j) λaq g=>ad (ak P 192 b 1) λav=>aB g (aA P g 9 av aq) λc=>au c (G 65 [a,X [58]] c) λbo e=>au e (G 115 [a] e) λay d=>ad (ak P 192 b 2) λaz=>aB d (aA P d 121 az ay) λf=>ad (ak P 113 aw 1) λaC=>ad (ah P f 9 aC) λaD=>ad (al P .eql 9 V aD (X [108,101,116])) λaE=>ax (D aE) (ad (ak P 192 b 0) λaF=>aB f (aA P f 3 aF (I J 2)) λh=>au h (G 65 [a,X [61]] h) λbp i=>au i (G 207 [a,I J 0] i) λaG m=>aO m (bl P (m).next 190 1 [(0,aG)]) λaH n=>ad (ak P 192 b 3) λaI=>aB n (aA P n 190 aI aH) λo=>jD G a k b o) (jD G a k b f)) (au H (G 61 [a,X [105,102]] H) λaJ l=>ax (D aJ) (ad (aL a) λaK=>ad (ak P 111 aK 1) λaM=>ad (ah P l 3 aM) λaN=>ad (al P .add 3 V aN (I J 1)) λaP=>ad (aL a) λaQ=>ad (ak P 111 aQ 1) λaR=>aB l (aA P l 3 aR aP) λj=>ad (ak P 192 b 0) λaS=>aB j (aA P j 3 aS (I J 5)) λg=>au g (G 207 [a,I J 0] g) λaT c=>aO c (bl P (c).next 190 1 [(0,aT)]) λaU e=>ad (ak P 192 b 3) λaV=>aB e (aA P e 190 aV aU) λd=>au d (G 116 [a] d) λaW f=>ad (ak P 192 b 4) λaX=>aB f (aA P f 126 aX aW) λh=>au h (G 61 [a,X [101,108,115,101]] h) λaY i=>ax (D aY) (ad (aL a) λaZ=>ad (ak P 111 aZ 1) λa0=>ad (ah P i 3 a0) λa1=>ad (al P .add 3 V a1 (I J 1)) λa2=>ad (aL a) λa3=>ad (ak P 111 a3 1) λa4=>aB i (aA P i 3 a4 a2) λm=>au m (G 116 [a] m) λa5 n=>ad (ak P 192 b 5) λa6=>aB n (aA P n 126 a6 a5) λo=>cQ G k b o) (cQ G k b i)) (au l (G 61 [a,X [119,104,105,108,101]] l) λa7 j=>ax (D a7) (ad (aL a) λa8=>ad (ak P 111 a8 1) λa9=>ad (ah P j 3 a9) λa_=>ad (al P .add 3 V a_ (I J 1)) λba=>ad (aL a) λbb=>ad (ak P 111 bb 1) λbc=>aB j (aA P j 3 bc ba) λg=>ad (ak P 192 b 0) λbd=>aB g (aA P g 3 bd (I J 6)) λc=>au c (G 207 [a,I J 0] c) λbe e=>aO e (bl P (e).next 190 1 [(0,be)]) λbf d=>ad (ak P 192 b 3) λbg=>aB d (aA P d 190 bg bf) λf=>au f (G 116 [a] f) λbh h=>ad (ak P 192 b 4) λbi=>aB h (aA P h 126 bi bh) λi=>cQ G k b i) (au j (G 61 [a,X [114,101,116,117,114,110]] j) λbj g=>ax (D bj) (ad (aL a) λbk=>ad (ak P 111 bk 1) λbm=>ad (ah P g 3 bm) λp=>ad (al P .add 3 V p (I J 1)) λq=>ad (aL a) λs=>ad (ak P 111 s 1) λt=>aB g (aA P g 3 t q) λc=>ad (ak P 192 b 0) λu=>aB c (aA P c 3 u (I J 7)) λe=>au e (G 61 [a,X [59]] e) λv d=>ad (bt .not v) λw=>ax (D w) (au d (G 207 [a,I J 0] d) λx f=>aO f (bl P (f).next 190 1 [(0,x)]) λz h=>ad (ak P 192 b 3) λA=>aB h (aA P h 190 A z) λi=>jE G a k b i) (jE G a k b d)) (au g (G 61 [a,X [112,114,105,110,116]] g) λB c=>ax (D B) (ad (aL a) λC=>ad (ak P 111 C 1) λE=>ad (ah P c 3 E) λK=>ad (al P .add 3 V K (I J 1)) λL=>ad (aL a) λM=>ad (ak P 111 M 1) λN=>aB c (aA P c 3 N L) λe=>ad (ak P 192 b 0) λQ=>aB e (aA P e 3 Q (I J 8)) λd=>au d (G 207 [a,I J 0] d) λR f=>aO f (bl P (f).next 190 1 [(0,R)]) λS h=>ad (ak P 192 b 3) λT=>aB h (aA P h 190 T S) λi=>au i (G 65 [a,X [59]] i) λbn m=>cQ G k b m) (ad (ah P c 192 b) λy=>au c (G 208 [a,y] c) λF e=>aB e (aA P e 192 k F) λd=>ad (ah P d 192 k) λr=>D (r,d))))))
def Mp(G:ai)(N:Nat):∀C H,aE P G N (af (an (an (af (af (af (aG Tryz.f157))))))) (λC H=>cQ G (C 2) (C 4) H) [(0,(λC H=>cQ G (C 2) (C 4) H))] (ay Tryz.f157) C H=jC G (C 0) (C 2) (C 3) (C 4) (C 13) H:=by
 refine aH ((bB j ((aq j ((aq j ((aq j ((aq j ((aq j ((aq j (Mq G N) (aj _))) (aj _))) (aj _))) (aj _))) (aj _))) (aj _))) ((aq j ((bB j (aj _) ((aq j ((bB j (aj _) ((aq j ((bB j ((aq j ((aq j ((aq j (Mr G N) (aj _))) (aj _))) (aj _))) (aj _))) (aj _))))) (aj _))))) (aj _))))) λC H=> ?_
 delta jC;generalize jE G=a;generalize cQ G=b;generalize jD G=c;revert a b c;refine id ?_;intro a b c;kernel_rfl
def oI(G:ai)(a:aa)(H:ae):O:=a7 H [I J 0,X [],X [],I J 0,aa.ar,aa.ar,aa.ar,I J 0,I J 0] λk e=>au e (G 60 [a] e) λo l=>a7 l [I J 0,X [],I J 0,I J 0] λb f=>aB f (aA P f 113 b o) λg=>ad (ak P 113 b 3) λp=>ad (ah P g 3 p) λq=>ad (bh P 192 [(6,q)]) λr=>a7 g [I J 0,X [],X [],I J 0,aa.ar,aa.ar,aa.ar,I J 0,I J 0] λd h=>aB h (aA P h 192 d r) λi=>au i (G 61 [a,X [118,97,114]] i) λj c=>ax (D j) (jC G a k b d j c) (au c (G 61 [a,X [108,101,116]] c) λn m=>jC G a k b d n m)
def Mn(G:ai)(N:Nat)(b:aa)(H:ae):aD Tryz.f157 G N (aP [b]) H=oI G b H:=by
 refine aS (A:=aD Tryz.f157 G N) ((aq j ((aq j ((aq j ((aq j (Mo G N) ((aT j ((aq j (Mp G N) (aj _))))))) (aj _))) (aj _))) (aj _))) ?_;delta oI;generalize jC G=a;revert a;refine id ?_;intro a;kernel_rfl
def oJ(G:ai)(b d:aa)(H:ae):O:=au H (G 65 [b,d] H) λk a=>ad (aL b) λi=>ad (ak P 111 i 2) λj=>ad (ah P a 3 j) λe=>ad (al P .sub 3 V e (I J 1)) λf=>ad (aL b) λg=>ad (ak P 111 g 2) λh=>aB a (aA P a 3 h f) λc=>D (.tuple [],c)
def Ms(G:ai)(N:Nat)(a:aa)(b:aa)(H:ae):aD Tryz.f158 G N (aP [a,b]) H=oJ G a b H:=by
 refine aS (A:=aD Tryz.f158 G N) (aj _) ?_;delta oJ;kernel_rfl
def pz(G:ai)(H:ae):O:=aO H (D (.ag (H).next 0 18 1 (D 18),.row U 1 [[X [114,101,99,111,114,100]],[X [103,108,111,98,97,108]],[X [102,117,110,99]],[X [118,97,114]],[X [108,101,116]],[X [105,102]],[X [101,108,115,101]],[X [119,104,105,108,101]],[X [114,101,116,117,114,110]],[X [112,114,105,110,116]],[X [110,117,108,108]],[X [110,101,119]],[X [108,101,110]],[X [114,101,97,100]],[X [116,114,117,101]],[X [102,97,108,115,101]],[X [105,110,116]],[X [98,111,111,108]]])) λb a=>D (b,a)
def O6(G:ai)(N:Nat)(H:ae):aD Tryz.f206 G N (aP []) H=pz G H:=by
 refine aS (A:=aD Tryz.f206 G N) (aj _) ?_;delta pz;kernel_rfl
def k4(G:ai)(N:Nat)(b d:aa)(H:ae):O:=ad (ah P H 235 d) λc=>aB H (aA P H 235 b c) λa=>ad (ah P a 235 b) λr=>D (r,a)
def O9(G:ai)(N:Nat):∀C H,aE P G N (af (af (af (af (aG Tryz.f207))))) (ay Tryz.f207) [] (ay Tryz.f207) C H=k4 G N (C 4) (C 5) H:=by
 refine aH (aj _) λC H=> ?_
 delta k4;kernel_rfl
def uD(G:ai)(N:Nat)(x:aa->aa->aa->aa->ae->O)(c g:aa)(w e:aa)(H:ae):O:=au H (G 59 [c] H) λd y=>ao d V y (aM g) λF B=>ao d V B (aM c) λK l=>ao d V l (λq=>bg l (G 60 [K] l) q) λL m=>ao d V m (λq=>bg m (G 236 [F,L] m) q) λM C=>ao d V C (az (al P .neq 3 V M (I J 0))) λQ n=>ad (aN d (D Q) (D (Z U))) λR=>ax (D R) (au n (G 60 [c] n) λS E=>a7 E [I J 0,X [],I J 0,I J 0] λj u=>aB u (aA P u 113 j S) λo=>ad (aL c) λT=>ad (ak P 111 T 1) λW=>ad (ah P o 3 W) λab=>ad (al P .add 3 V ab (I J 1)) λaf=>ad (aL c) λaj=>ad (ak P 111 aj 1) λam=>aB o (aA P o 3 am af) λs=>ad (al P .add 3 V g (I J 1)) λan=>au s (G 207 [c,an] s) λap z=>a7 z [I J 0,I J 0,X [],X [],I J 0,aa.ar,I J 0,I J 0,I J 0,I J 0,I J 0] λk t=>aB t (aA P t 235 k ap) λa=>ad (ah P a 113 j) λv=>au a (G 236 [g,v] a) λaq b=>ad (ah P b 235 e) λp=>ad (ah P b 235 k) λr=>aO b (bl P (b).next 190 2 [(0,p),(1,r)]) λav f=>ad (ak P 113 j 3) λh=>ad (ah P f 3 h) λi=>ad (bh P 235 [(0,aq),(4,av),(5,i)]) λaw=>aB f (aA P f 235 e aw) λA=>bif ((aJ (ah P a 113 j) v&&V)&&((aJ (ah P a 235 e) p&&(aJ (ah P b 235 e) p&&V))&&((aJ (ah P a 235 k) r&&(aJ (ah P b 235 k) r&&V))&&((aJ (ah P a 3 h) i&&(aJ (ah P b 3 h) i&&(aJ (ah P f 3 h) i&&V)))&&V))))then(x c g w e A)else Y) (k4 G N w e n)
def k5(G:ai)(N:Nat):Nat->aa->aa->aa->aa->ae->O
 |0,_,_,_,_,_=>Y
 |n+1,a,b,c,d,H=>uD G N (k5 G N n) a b c d H
def O7(G:ai)(N:Nat)(b:aa->aa->aa->aa->ae->O):∀C H,aE P G N (an (an (an (af (af (af (aG Tryz.f207))))))) (λC H=>b (C 0) (C 1) (C 4) (C 5) H) [(0,(λC H=>k4 G N (C 4) (C 5) H))] (ay Tryz.f207) C H=uD G N b (C 0) (C 1) (C 4) (C 5) H:=by
 refine aH (aj _) λC H=> ?_
 delta uD;generalize k4 G N=a;revert a;refine id ?_;intro a;kernel_rfl
def pA(G:ai)(N:Nat)(d e:aa)(H:ae):O:=a7 H [I J 0,I J 0,X [],X [],I J 0,aa.ar,I J 0,I J 0,I J 0,I J 0,I J 0] λf b=>ad (al P .eql 3 V e (I J 5)) λl=>ax (D l) (au b (G 235 [d] b) λi c=>aB c (aA P c 235 f i) λa=>ad (ah P a 235 f) λr=>D (r,a)) (ad (al P .add 3 V e (I J 1)) λj=>au b (G 207 [d,j] b) λk c=>a7 c [I J 0,I J 0,X [],X [],I J 0,aa.ar,I J 0,I J 0,I J 0,I J 0,I J 0] λg a=>aB a (aA P a 235 g k) λh=>k5 G N N d e f g h)
def O8(G:ai)(N:Nat)(b:aa)(c:aa)(H:ae):aD Tryz.f207 G N (aP [b,c]) H=pA G N b c H:=by
 refine aS (A:=aD Tryz.f207 G N) ((aq j ((aq j ((aq j ((aq j (O9 G N) ((aT j ((a8 (k:=λm C H=>k5 G N m (C 0) (C 1) (C 4) (C 5) H) j (λC H=>j) (λm=>O7 G N (k5 G N m)))))))) (aj _))) (aj _))) (aj _))) ?_;delta pA;generalize k5 G N N=a;revert a;refine id ?_;intro a;kernel_rfl
def k7(G:ai)(h b:aa)(g i:aa)(H:ae):O:=au H (G 65 [h,X [61]] H) λN k=>au k (G 207 [h,I J 0] k) λp o=>a7 o [I J 0,I J 0,X [],X [],I J 0,aa.ar,I J 0,I J 0,I J 0,I J 0,I J 0] λj m=>aB m (aA P m 235 j p) λn=>au n (G 65 [h,X [59]] n) λQ f=>ad (ak P 235 i 0) λq=>ad (ah P f 3 q) λs=>ad (al P .eql 3 V s (I J 4)) λt=>ax (D t) (ad (ak P 192 b 0) λu=>aB f (aA P f 3 u (I J 3)) λa=>ad (ak P 235 i 2) λv=>ad (ah P a 9 v) λw=>ad (ak P 192 b 1) λx=>aB a (aA P a 9 x w) λc=>ad (ah P c 235 j) λy=>aO c (bl P (c).next 190 1 [(0,y)]) λz d=>ad (ak P 192 b 3) λA=>aB d (aA P d 190 A z) λe=>ad (ah P e 192 b) λB=>aB e (aA P e 192 g B) λl=>ad (ah P l 192 g) λr=>D (r,l)) (ad (ak P 192 b 0) λC=>aB f (aA P f 3 C (I J 4)) λa=>ad (ah P a 235 i) λE=>ad (ah P a 235 j) λF=>aO a (bl P (a).next 190 2 [(0,E),(1,F)]) λK c=>ad (ak P 192 b 3) λL=>aB c (aA P c 190 L K) λd=>ad (ah P d 192 b) λM=>aB d (aA P d 192 g M) λe=>ad (ah P e 192 g) λr=>D (r,e))
def Pb(G:ai)(N:Nat):∀C H,aE P G N (af (af (af (af (aG Tryz.f208))))) (ay Tryz.f208) [] (ay Tryz.f208) C H=k7 G (C 0) (C 3) (C 4) (C 5) H:=by
 refine aH (aj _) λC H=> ?_
 delta k7;kernel_rfl
def k6(G:ai)(e h:aa)(i a:aa)(H:ae):O:=ad (ak P 235 a 0) λn=>ad (ah P H 3 n) λo=>ad (al P .neq 3 V o (I J 4)) λb=>ao b V H (az (ak P 235 a 0)) λp f=>ao b V f (qr (ah P f 3 p)) λq j=>ao b V j (az (al P .neq 3 V q (I J 5))) λr k=>ad (aN b (D r) (D (Z U))) λc=>ao c V k (az (ak P 235 a 0)) λs g=>ao c V g (qr (ah P g 3 s)) λt l=>ao c V l (az (al P .neq 3 V t (I J 6))) λu d=>ad (aN c (D u) (D (Z U))) λv=>ax (D v) (au d (G 62 [e,I J 2] d) λw m=>k7 G e h i a m) (k7 G e h i a d)
def Pa(G:ai)(N:Nat):∀C H,aE P G N (af (af (af (aG Tryz.f208)))) (ay Tryz.f208) [] (ay Tryz.f208) C H=k6 G (C 0) (C 3) (C 4) (C 5) H:=by
 refine aH ((aq j (Pb G N) (aj _))) λC H=> ?_
 delta k6;generalize k7 G=a;revert a;refine id ?_;intro a;kernel_rfl
def k8(G:ai)(d f c:aa)(H:ae):O:=au H (G 65 [d,X [59]] H) λg a=>ad (ah P a 192 f) λe=>aB a (aA P a 192 c e) λb=>ad (ah P b 192 c) λr=>D (r,b)
def Pc(G:ai)(N:Nat):∀C H,aE P G N (af (af (af (an (af (an (af (af (aG Tryz.f208))))))))) (λC H=>k6 G (C 0) (C 3) (C 4) (C 5) H) [] (ay Tryz.f208) C H=k8 G (C 0) (C 3) (C 4) H:=by
 refine aH (aj _) λC H=> ?_
 delta k8;kernel_rfl
def pB(G:ai)(a t:aa)(H:ae):O:=aO H (bo (H).next t) λb o=>a7 o [I J 0,X [],X [],I J 0,aa.ar,aa.ar,aa.ar,I J 0,I J 0] λh j=>au j (G 207 [a,I J 0] j) λF s=>a7 s [I J 0,I J 0,X [],X [],I J 0,aa.ar,I J 0,I J 0,I J 0,I J 0,I J 0] λd k=>aB k (aA P k 235 d F) λl=>au l (G 61 [a,X [61]] l) λu f=>ad (bt .not u) λv=>ax (D v) (ad (ak P 192 b 0) λw=>aB f (aA P f 3 w (I J 9)) λg=>ad (ah P g 235 d) λx=>aO g (bl P (g).next 190 1 [(0,x)]) λy m=>ad (ak P 192 b 3) λz=>aB m (aA P m 190 z y) λn=>au n (G 61 [a,X [59]] n) λc p=>ao c V p (az (ak P 235 d 0)) λA i=>ao c V i (qr (ah P i 3 A)) λB q=>ao c V q (az (al P .neq 3 V B (I J 7))) λC e=>ad (aN c (D C) (D (Z U))) λE=>ax (D E) (au e (G 62 [a,I J 2] e) λK r=>k8 G a b h r) (k8 G a b h e)) (k6 G a b h d f)
def O_(G:ai)(N:Nat)(c:aa)(d:aa)(H:ae):aD Tryz.f208 G N (aP [c,d]) H=pB G c d H:=by
 refine aS (A:=aD Tryz.f208 G N) ((aq j ((aq j ((aq j (Pa G N) ((aq j ((bB j ((aq j ((aq j ((aq j (Pc G N) (aj _))) (aj _))) (aj _))) (aj _))) (aj _))))) (aj _))) (aj _))) ?_;delta pB;generalize k6 G=a;generalize k8 G=b;revert a b;refine id ?_;intro a b;kernel_rfl
def lC(G:ai)(a h:aa)(i A:aa)(H:ae):O:=ad (ak P 113 i 1) λl=>ad (ah P H 9 l) λm=>au H (G 156 [a,m] H) λB e=>au e (G 207 [a,I J 5] e) λn k=>a7 k [I J 0,I J 0,X [],X [],I J 0,aa.ar,I J 0,I J 0,I J 0,I J 0,I J 0] λj f=>aB f (aA P f 235 j n) λb=>ad (aL a) λo=>ad (ak P 111 o 2) λp=>ad (ah P b 3 p) λq=>ad (al P .sub 3 V q (I J 1)) λs=>ad (aL a) λt=>ad (ak P 111 t 2) λu=>aB b (aA P b 3 u s) λc=>ad (ah P c 235 j) λv=>aO c (bl P (c).next 190 1 [(0,v)]) λw d=>ad (ak P 113 i 3) λx=>ad (ah P d 3 x) λy=>ad (bh P 235 [(0,A),(4,w),(5,y)]) λz=>aB d (aA P d 235 h z) λg=>ad (ah P g 235 h) λr=>D (r,g)
def Qd(G:ai)(N:Nat):∀C H,aE P G N (af (af (af (af (aG Tryz.f235))))) (ay Tryz.f235) [] (ay Tryz.f235) C H=lC G (C 0) (C 2) (C 3) (C 4) H:=by
 refine aH (aj _) λC H=> ?_
 delta lC;kernel_rfl
def p3(G:ai)(a:aa)(H:ae):O:=a7 H [I J 0,I J 0,X [],X [],I J 0,aa.ar,I J 0,I J 0,I J 0,I J 0,I J 0] λb f=>au f (G 60 [a] f) λq l=>a7 l [I J 0,X [],I J 0,I J 0] λe g=>aB g (aA P g 113 e q) λh=>au h (G 61 [a,X [45]] h) λo c=>ax (D o) (lC G a b e (I J 12) c) (au c (G 61 [a,X [33]] c) λp d=>ax (D p) (lC G a b e (I J 13) d) (au d (G 256 [a] d) λm i=>au i (G 255 [a,m] i) λn j=>aB j (aA P j 235 b n) λk=>ad (ah P k 235 b) λr=>D (r,k)))
def Qc(G:ai)(N:Nat)(b:aa)(H:ae):aD Tryz.f235 G N (aP [b]) H=p3 G b H:=by
 refine aS (A:=aD Tryz.f235 G N) ((aq j ((aq j ((aq j ((aq j (Qd G N) (aj _))) (aj _))) (aj _))) (aj _))) ?_;delta p3;generalize lC G=a;revert a;refine id ?_;intro a;kernel_rfl
def lD(G:ai)(N:Nat)(H:ae):O:=some ((I J 0),H)
def Qg(G:ai)(N:Nat):∀C H,aE P G N (af (af (af (af (af (aG Tryz.f236)))))) (ay Tryz.f236) [] (ay Tryz.f236) C H=lD G N H:=by
 refine aH (aj _) λC H=> ?_
 delta lD;kernel_rfl
def uO(G:ai)(N:Nat)(f:aa->aa->aa->aa->aa->ae->O)(a d:aa)(c e b:aa)(H:ae):O:=ad (aF P 323 c a) λg=>ad (ah P H 57 g) λh=>aZ P .len [57] [h] H λi=>ad (al P .lss 3 U b i) λj=>ax (D j) (ad (aF P 323 c a) λl=>ad (ah P H 57 l) λm=>ad (aF P 57 m b) λn=>ad (ah P H 9 n) λo=>ad (ak P 113 d 1) λp=>ad (ah P H 9 p) λq=>ad (al P .eql 9 U o q) λr=>ax (D r) (ad (aF P 31 e a) λs=>ad (ah P H 30 s) λt=>ad (aF P 30 t b) λu=>ad (ah P H 3 u) λv=>D (v,H)) (ad (al P .add 3 V b (I J 1)) λk=>f a d c e k H)) (lD G N H)
def lE(G:ai)(N:Nat):Nat->aa->aa->aa->aa->aa->ae->O
 |0,_,_,_,_,_,_=>Y
 |n+1,a,b,c,d,e,H=>uO G N (lE G N n) a b c d e H
def Qe(G:ai)(N:Nat)(b:aa->aa->aa->aa->aa->ae->O):∀C H,aE P G N (an (an (af (an (af (af (af (af (aG Tryz.f236))))))))) (λC H=>b (C 0) (C 3) (C 5) (C 6) (C 7) H) [(0,(λC H=>lD G N H))] (ay Tryz.f236) C H=uO G N b (C 0) (C 3) (C 5) (C 6) (C 7) H:=by
 refine aH (aj _) λC H=> ?_
 delta uO;generalize lD G N=a;revert a;refine id ?_;intro a;kernel_rfl
def p4(G:ai)(N:Nat)(o p:aa)(H:ae):O:=aO H (bo (H).next p) λm a=>ad (ak P 113 m 0) λE=>ad (ah P a 3 E) λF=>ad (al P .neq 3 V F (I J 4)) λq=>ax (D q) (D ((I J 0),a)) (aO a (D (.ag (a).next 0 1 1 (D 1),.row U 1 [[X [124,124]]])) λr e=>aO e (D (.ag (e).next 0 1 1 (D 1),.row U 1 [[X [38,38]]])) λs f=>aO f (D (.ag (f).next 0 4 1 (D 4),.row U 1 [[X [60]],[X [60,61]],[X [61,61]],[X [33,61]]])) λt g=>aO g (D (.ag (g).next 0 2 1 (D 2),.row U 1 [[X [43]],[X [45]]])) λu h=>aO h (D (.ag (h).next 0 3 1 (D 3),.row U 1 [[X [42]],[X [47]],[X [37]]])) λv i=>aO i (bl P (i).next 323 5 [(0,r),(1,s),(2,t),(3,u),(4,v)]) λw j=>aO j (D (.ag (j).next 0 1 1 (D 1),.row U 1 [[I J 24]])) λx k=>aO k (D (.ag (k).next 0 1 1 (D 1),.row U 1 [[I J 23]])) λy l=>aO l (D (.ag (l).next 0 4 1 (D 4),.row U 1 [[I J 19],[I J 20],[I J 21],[I J 22]])) λz b=>aO b (D (.ag (b).next 0 2 1 (D 2),.row U 1 [[I J 14],[I J 15]])) λA c=>aO c (D (.ag (c).next 0 3 1 (D 3),.row U 1 [[I J 16],[I J 17],[I J 18]])) λB d=>aO d (bl P (d).next 31 5 [(0,x),(1,y),(2,z),(3,A),(4,B)]) λC n=>lE G N N o m w C (I J 0) n)
def Qf(G:ai)(N:Nat)(b:aa)(c:aa)(H:ae):aD Tryz.f236 G N (aP [b,c]) H=p4 G N b c H:=by
 refine aS (A:=aD Tryz.f236 G N) ((aq j ((aq j ((aq j ((aq j ((aq j (Qg G N) ((aq j ((aT j ((a8 (k:=λm C H=>lE G N m (C 0) (C 3) (C 5) (C 6) (C 7) H) j (λC H=>j) (λm=>Qe G N (lE G N m)))))) (aj _))))) (aj _))) (aj _))) (aj _))) (aj _))) ?_;delta p4;generalize lE G N N=a;revert a;refine id ?_;intro a;kernel_rfl
def lU(G:ai)(N:Nat)(c b:aa)(H:ae):O:=ad (ah P H 235 c) λd=>aB H (aA P H 235 b d) λa=>ad (ah P a 235 b) λr=>D (r,a)
def Q2(G:ai)(N:Nat):∀C H,aE P G N (af (af (aG Tryz.f255))) (ay Tryz.f255) [] (ay Tryz.f255) C H=lU G N (C 3) (C 4) H:=by
 refine aH (aj _) λC H=> ?_
 delta lU;kernel_rfl
def uT(G:ai)(N:Nat)(s:aa->aa->aa->ae->O)(a b o:aa)(H:ae):O:=au H (G 61 [a,X [46]] H) λr w=>ao r U w (aM a) λz l=>ao r U l (λq=>bg l (G 61 [z,X [91]] l) q) λA m=>ad (aN r (D (Z V)) (D A)) λB=>ax (D B) (au m (G 60 [a] m) λC y=>a7 y [I J 0,X [],I J 0,I J 0] λp t=>aB t (aA P t 113 p C) λu=>au u (G 61 [a,X [46]] u) λE f=>ax (D E) (ad (aL a) λF=>ad (ak P 111 F 1) λK=>ad (ah P f 3 K) λL=>ad (al P .add 3 V L (I J 1)) λM=>ad (aL a) λQ=>ad (ak P 111 Q 1) λR=>aB f (aA P f 3 R M) λd=>au d (G 114 [a] d) λS e=>ad (ah P e 235 b) λn=>aO e (bl P (e).next 190 1 [(0,n)]) λT c=>ad (ak P 113 p 3) λi=>ad (ah P c 3 i) λj=>ad (bh P 235 [(0,(I J 5)),(2,S),(4,T),(5,j)]) λW=>aB c (aA P c 235 b W) λg=>bif ((aJ (ah P d 235 b) n&&(aJ (ah P e 235 b) n&&V))&&((aJ (ah P d 3 i) j&&(aJ (ah P e 3 i) j&&(aJ (ah P c 3 i) j&&V)))&&V))then(s a b o g)else Y) (au f (G 156 [a,X [91]] f) λav d=>au d (G 207 [a,I J 0] d) λab e=>a7 e [I J 0,I J 0,X [],X [],I J 0,aa.ar,I J 0,I J 0,I J 0,I J 0,I J 0] λv c=>aB c (aA P c 235 v ab) λg=>au g (G 158 [a,X [93]] g) λaw h=>ad (ah P h 235 b) λaf=>ad (ah P h 235 v) λaj=>aO h (bl P (h).next 190 2 [(0,af),(1,aj)]) λam k=>ad (ak P 113 p 3) λan=>ad (ah P k 3 an) λap=>ad (bh P 235 [(0,(I J 6)),(4,am),(5,ap)]) λaq=>aB k (aA P k 235 b aq) λx=>s a b o x)) (lU G N b o m)
def lV(G:ai)(N:Nat):Nat->aa->aa->aa->ae->O
 |0,_,_,_,_=>Y
 |n+1,a,b,c,H=>uT G N (lV G N n) a b c H
def Q0(G:ai)(N:Nat)(b:aa->aa->aa->ae->O):∀C H,aE P G N (an (an (an (af (aG Tryz.f255))))) (λC H=>b (C 0) (C 3) (C 4) H) [(0,(λC H=>lU G N (C 3) (C 4) H))] (ay Tryz.f255) C H=uT G N b (C 0) (C 3) (C 4) H:=by
 refine aH (aj _) λC H=> ?_
 delta uT;generalize lU G N=a;revert a;refine id ?_;intro a;kernel_rfl
def qm(G:ai)(N:Nat)(c d:aa)(H:ae):O:=aO H (bo (H).next d) λe a=>a7 a [I J 0,I J 0,X [],X [],I J 0,aa.ar,I J 0,I J 0,I J 0,I J 0,I J 0] λf b=>lV G N N c e f b
def Q1(G:ai)(N:Nat)(b:aa)(c:aa)(H:ae):aD Tryz.f255 G N (aP [b,c]) H=qm G N b c H:=by
 refine aS (A:=aD Tryz.f255 G N) ((aq j ((aq j (Q2 G N) ((aT j ((a8 (k:=λm C H=>lV G N m (C 0) (C 3) (C 4) H) j (λC H=>j) (λm=>Q0 G N (lV G N m)))))))) (aj _))) ?_;delta qm;generalize lV G N N=a;revert a;refine id ?_;intro a;kernel_rfl
def e8(G:ai)(d c j:aa)(H:ae):O:=au H (G 114 [d] H) λi g=>au g (G 61 [d,X [40]] g) λk b=>ad (bt .not k) λl=>ax (D l) (ad (ak P 113 j 3) λm=>ad (ah P b 3 m) λn=>ad (bh P 235 [(0,(I J 4)),(2,i),(5,n)]) λo=>aB b (aA P b 235 c o) λa=>ad (ah P a 235 c) λr=>D (r,a)) (au b (G 264 [d] b) λp a=>ad (ak P 113 j 3) λe=>ad (ah P a 3 e) λf=>ad (bh P 235 [(0,(I J 7)),(2,i),(4,p),(5,f)]) λq=>aB a (aA P a 235 c q) λh=>bif ((aJ (ah P b 3 e) f&&(aJ (ah P a 3 e) f&&V))&&V)then(ad (ah P h 235 c) λr=>D (r,h))else Y)
def Q4(G:ai)(N:Nat):∀C H,aE P G N (af (af (af (aG Tryz.f256)))) (ay Tryz.f256) [] (ay Tryz.f256) C H=e8 G (C 0) (C 2) (C 3) H:=by
 refine aH (aj _) λC H=> ?_
 delta e8;kernel_rfl
def lX(G:ai)(b c d:aa)(H:ae):O:=ad (ak P 113 c 3) λe=>ad (ah P H 3 e) λf=>ad (bh P 235 [(0,(I J 2)),(1,d),(5,f)]) λg=>aB H (aA P H 235 b g) λa=>ad (ah P a 235 b) λr=>D (r,a)
def Q6(G:ai)(N:Nat):∀C H,aE P G N (af (af (af (an (af (af (af (an (an (af (af (aG Tryz.f256)))))))))))) (λC H=>e8 G (C 0) (C 2) (C 3) H) [(0,(λC H=>e8 G (C 0) (C 2) (C 3) H))] (ay Tryz.f256) C H=lX G (C 2) (C 3) (C 4) H:=by
 refine aH (aj _) λC H=> ?_
 delta lX;kernel_rfl
def lW(G:ai)(a e:aa)(j x:aa)(H:ae):O:=ax (D x) (ad (aL a) λy=>ad (ak P 111 y 1) λz=>ad (ah P H 3 z) λA=>ad (al P .add 3 V A (I J 1)) λB=>ad (aL a) λC=>ad (ak P 111 C 1) λE=>aB H (aA P H 3 E B) λg=>ad (ak P 113 j 1) λF=>ad (ah P g 9 F) λK=>ad (al P .eql 9 V K (X [116,114,117,101])) λL=>ax (D L) (lX G e j (I J 1) g) (lX G e j (I J 0) g)) (au H (G 61 [a,X [110,117,108,108]] H) λM g=>ax (D M) (ad (aL a) λN=>ad (ak P 111 N 1) λQ=>ad (ah P g 3 Q) λR=>ad (al P .add 3 V R (I J 1)) λS=>ad (aL a) λT=>ad (ak P 111 T 1) λW=>aB g (aA P g 3 W S) λh=>au h (G 115 [a] h) λab c=>ad (ak P 113 j 3) λm=>ad (ah P c 3 m) λn=>ad (bh P 235 [(0,(I J 3)),(3,ab),(5,n)]) λaf=>aB c (aA P c 235 e af) λb=>bif ((aJ (ah P h 3 m) n&&(aJ (ah P c 3 m) n&&V))&&V)then(ad (ah P b 235 e) λr=>D (r,b))else Y) (au g (G 61 [a,X [110,101,119]] g) λaj h=>ax (D aj) (ad (aL a) λam=>ad (ak P 111 am 1) λan=>ad (ah P h 3 an) λao=>ad (al P .add 3 V ao (I J 1)) λap=>ad (aL a) λaq=>ad (ak P 111 aq 1) λav=>aB h (aA P h 3 av ap) λc=>ad (ak P 113 j 3) λaw=>ad (ah P c 3 aw) λay=>au c (G 262 [a,ay] c) λaz b=>aB b (aA P b 235 e az) λd=>ad (ah P d 235 e) λr=>D (r,d)) (au h (G 61 [a,X [108,101,110]] h) λaC c=>ax (D aC) (ad (aL a) λaD=>ad (ak P 111 aD 1) λaE=>ad (ah P c 3 aE) λaF=>ad (al P .add 3 V aF (I J 1)) λaG=>ad (aL a) λaH=>ad (ak P 111 aH 1) λaI=>aB c (aA P c 3 aI aG) λb=>au b (G 263 [a] b) λaK d=>aO d (bl P (d).next 190 1 [(0,aK)]) λaM f=>ad (ak P 113 j 3) λk=>ad (ah P f 3 k) λl=>ad (bh P 235 [(0,(I J 10)),(4,aM),(5,l)]) λaN=>aB f (aA P f 235 e aN) λi=>bif ((aJ (ah P b 3 k) l&&(aJ (ah P d 3 k) l&&(aJ (ah P f 3 k) l&&V)))&&V)then(ad (ah P i 235 e) λr=>D (r,i))else Y) (au c (G 61 [a,X [114,101,97,100]] c) λaP b=>ax (D aP) (ad (aL a) λaQ=>ad (ak P 111 aQ 1) λaR=>ad (ah P b 3 aR) λaS=>ad (al P .add 3 V aS (I J 1)) λaT=>ad (aL a) λp=>ad (ak P 111 p 1) λq=>aB b (aA P b 3 q aT) λd=>au d (G 156 [a,X [40]] d) λaU f=>au f (G 158 [a,X [41]] f) λaV i=>ad (ak P 113 j 3) λs=>ad (ah P i 3 s) λt=>ad (bh P 235 [(0,(I J 11)),(5,t)]) λu=>aB i (aA P i 235 e u) λo=>ad (ah P o 235 e) λr=>D (r,o)) (au b (G 61 [a,X [40]] b) λv d=>ax (D v) (au d (G 263 [a] d) λw f=>aB f (aA P f 235 e w) λi=>ad (ah P i 235 e) λr=>D (r,i)) (e8 G a e j d))))))
def Q5(G:ai)(N:Nat):∀C H,aE P G N (af (af (af (an (an (af (af (aG Tryz.f256)))))))) (λC H=>e8 G (C 0) (C 2) (C 3) H) [(0,(λC H=>e8 G (C 0) (C 2) (C 3) H))] (ay Tryz.f256) C H=lW G (C 0) (C 2) (C 3) (C 28) H:=by
 refine aH ((bB j ((aq j ((aq j ((aq j (Q6 G N) (aj _))) (aj _))) (aj _))) (aj _))) λC H=> ?_
 delta lW;generalize e8 G=a;generalize lX G=b;revert a b;refine id ?_;intro a b;kernel_rfl
def qn(G:ai)(b:aa)(H:ae):O:=a7 H [I J 0,I J 0,X [],X [],I J 0,aa.ar,I J 0,I J 0,I J 0,I J 0,I J 0] λg h=>au h (G 60 [b] h) λL m=>a7 m [I J 0,X [],I J 0,I J 0] λc i=>aB i (aA P i 113 c L) λj=>au j (G 59 [b] j) λf n=>ao f V n (az (ak P 113 c 0)) λp k=>ao f V k (qr (ah P k 3 p)) λq o=>ao f V o (az (al P .eql 3 V q (I J 2))) λs d=>ad (aN f (D s) (D (Z U))) λt=>ax (D t) (ad (aL b) λu=>ad (ak P 111 u 1) λv=>ad (ah P d 3 v) λw=>ad (al P .add 3 V w (I J 1)) λx=>ad (aL b) λy=>ad (ak P 111 y 1) λz=>aB d (aA P d 3 z x) λa=>ad (ak P 113 c 2) λA=>ad (ah P a 3 A) λB=>ad (ak P 113 c 3) λC=>ad (ah P a 3 C) λE=>ad (bh P 235 [(0,(I J 1)),(1,B),(5,E)]) λF=>aB a (aA P a 235 g F) λe=>ad (ah P e 235 g) λr=>D (r,e)) (au d (G 61 [b,X [116,114,117,101]] d) λl a=>ax (D l) (lW G b g c l a) (au a (G 61 [b,X [102,97,108,115,101]] a) λK e=>lW G b g c K e))
def Q3(G:ai)(N:Nat)(b:aa)(H:ae):aD Tryz.f256 G N (aP [b]) H=qn G b H:=by
 refine aS (A:=aD Tryz.f256 G N) ((aq j ((aq j ((aq j (Q4 G N) ((aT j ((aq j ((bB j (aj _) ((aq j (Q5 G N) (aj _))))) (aj _))))))) (aj _))) (aj _))) ?_;delta qn;generalize lW G=a;revert a;refine id ?_;intro a;kernel_rfl
def qu(G:ai)(a o:aa)(H:ae):O:=a7 H [I J 0,I J 0,X [],X [],I J 0,aa.ar,I J 0,I J 0,I J 0,I J 0,I J 0] λh k=>au k (G 61 [a,X [91]] k) λE b=>ad (bt .not E) λF=>ax (D F) (au b (G 114 [a] b) λp c=>ad (bh P 121 [(0,p)]) λq=>ad (bh P 235 [(0,(I J 8)),(3,q),(5,o)]) λs=>aB c (aA P c 235 h s) λe=>ad (ah P e 235 h) λr=>D (r,e)) (ad (aL a) λt=>ad (ak P 111 t 1) λu=>ad (ah P b 3 u) λv=>ad (al P .add 3 V v (I J 1)) λw=>ad (aL a) λx=>ad (ak P 111 x 1) λy=>aB b (aA P b 3 y w) λc=>au c (G 115 [a] c) λz e=>a7 e [X [],I J 0] λd m=>aB m (aA P m 121 d z) λn=>au n (G 65 [a,X [93]] n) λK i=>au i (G 263 [a] i) λA f=>ad (ah P f 121 d) λg=>aO f (bl P (f).next 190 1 [(0,A)]) λB j=>ad (bh P 235 [(0,(I J 9)),(3,g),(4,B),(5,o)]) λC=>aB j (aA P j 235 h C) λl=>bif ((aJ (ah P i 121 d) g&&(aJ (ah P f 121 d) g&&(aJ (ah P j 121 d) g&&V)))&&V)then(ad (ah P l 235 h) λr=>D (r,l))else Y)
def Rl(G:ai)(N:Nat)(a:aa)(b:aa)(H:ae):aD Tryz.f262 G N (aP [a,b]) H=qu G a b H:=by
 refine aS (A:=aD Tryz.f262 G N) (aj _) ?_;delta qu;kernel_rfl
def qv(G:ai)(b:aa)(H:ae):O:=a7 H [I J 0,I J 0,X [],X [],I J 0,aa.ar,I J 0,I J 0,I J 0,I J 0,I J 0] λh c=>au c (G 156 [b,X [40]] c) λm d=>au d (G 207 [b,I J 0] d) λl j=>a7 j [I J 0,I J 0,X [],X [],I J 0,aa.ar,I J 0,I J 0,I J 0,I J 0,I J 0] λi e=>aB e (aA P e 235 i l) λf=>au f (G 158 [b,X [41]] f) λn a=>ad (ah P a 235 i) λk=>aB a (aA P a 235 h k) λg=>ad (ah P g 235 h) λr=>D (r,g)
def Rm(G:ai)(N:Nat)(a:aa)(H:ae):aD Tryz.f263 G N (aP [a]) H=qv G a H:=by
 refine aS (A:=aD Tryz.f263 G N) (aj _) ?_;delta qv;kernel_rfl
def l5(G:ai)(N:Nat)(b c:aa)(H:ae):O:=au H (G 158 [b,X [41]] H) λd a=>D (c,a)
def Rp(G:ai)(N:Nat):∀C H,aE P G N (af (af (af (af (af (af (aG Tryz.f264))))))) (ay Tryz.f264) [] (ay Tryz.f264) C H=l5 G N (C 0) (C 3) H:=by
 refine aH (aj _) λC H=> ?_
 delta l5;kernel_rfl
def uY(G:ai)(N:Nat)(g:aa->aa->ae->O)(a f:aa)(H:ae):O:=au H (G 61 [a,X [44]] H) λi b=>ax (D i) (ad (aL a) λj=>ad (ak P 111 j 1) λk=>ad (ah P b 3 k) λl=>ad (al P .add 3 V l (I J 1)) λm=>ad (aL a) λn=>ad (ak P 111 n 1) λo=>aB b (aA P b 3 o m) λc=>au c (G 207 [a,I J 0] c) λp d=>aO d (bl P (d).next 190 1 [(0,p)]) λq e=>au e (bJ P e [190,190] f q) λr h=>g a r h) (l5 G N a f b)
def l6(G:ai)(N:Nat):Nat->aa->aa->ae->O
 |0,_,_,_=>Y
 |n+1,a,b,H=>uY G N (l6 G N n) a b H
def Rn(G:ai)(N:Nat)(b:aa->aa->ae->O):∀C H,aE P G N (an (an (an (af (af (af (af (af (aG Tryz.f264))))))))) (λC H=>b (C 0) (C 3) H) [(0,(λC H=>l5 G N (C 0) (C 3) H))] (ay Tryz.f264) C H=uY G N b (C 0) (C 3) H:=by
 refine aH (aj _) λC H=> ?_
 delta uY;generalize l5 G N=a;revert a;refine id ?_;intro a;kernel_rfl
def qw(G:ai)(N:Nat)(a:aa)(H:ae):O:=au H (G 156 [a,X [40]] H) λk d=>au d (G 61 [a,X [41]] d) λj b=>ax (D j) (au b (G 158 [a,X [41]] b) λl c=>D (aa.ar,c)) (au b (G 207 [a,I J 0] b) λg c=>aO c (bl P (c).next 190 1 [(0,g)]) λh e=>au e (bJ P e [190,190] aa.ar h) λi f=>l6 G N N a i f)
def Ro(G:ai)(N:Nat)(b:aa)(H:ae):aD Tryz.f264 G N (aP [b]) H=qw G N b H:=by
 refine aS (A:=aD Tryz.f264 G N) ((aq j ((aq j ((aq j ((aq j ((aq j ((aq j (Rp G N) ((aT j ((a8 (k:=λm C H=>l6 G N m (C 0) (C 3) H) j (λC H=>j) (λm=>Rn G N (l6 G N m)))))))) (aj _))) (aj _))) (aj _))) (aj _))) (aj _))) ?_;delta qw;generalize l6 G N N=a;revert a;refine id ?_;intro a;kernel_rfl
