/-
  Texts of one proof, laid together: ShP.
-/
import Derived.Test.YtolnciihfbifcaaGreatME
set_option linter.unusedVariables false
set_option linter.unusedSimpArgs false
set_option linter.defProp false
open Option renaming some→D,none→Y
open Bool renaming true→V,false→U
open Go.cV.aa renaming int→I,str→X,bool→Z
open Go.IntKind renaming i64→J
namespace Go.Proofs.YtolnciihfbifcaaGreat
open Go.cV
set_option maxRecDepth 100000
noncomputable section
def ps(G:ai)(N:Nat)(d e:aa)(i n:aa)(H:af):O:=aw H (G 61 [i] H) λj c=>ad (bu .not j) λk=>ay (D k) (aF c (aC P c 55 d (.agg [aa.ao,aa.ao,aa.ao])) λa=>ad (aL i) λl=>ad (ak P 104 l 3) λg=>ad (ah P a 58 g) λh=>aF a (aC P a 58 e h) λb=>bif ((aJ (ah P c 58 g) h&&(aJ (ah P a 58 g) h&&V))&&V)then(ad (ah P b 55 d) λr=>ad (ah P b 58 e) λf=>D (.tuple [r,f],b))else Y) (ad (ah P c 55 n) λm=>aF c (aC P c 55 d m) λa=>aF a (aC P a 58 e (.agg [I J 0,I J 0])) λb=>ad (ah P b 55 d) λr=>ad (ah P b 58 e) λf=>D (.tuple [r,f],b))
def aoW(G:ai)(N:Nat):∀C H,aD P G N (ae (ae (ae (ae (ae (ae (aG Tryz.f32))))))) (ax Tryz.f32) [] (ax Tryz.f32) C H=ps G N (C 2) (C 3) (C 6) (C 7) H:=by
 refine aI (aj _) λC H=> ?_
 delta ps;kernel_rfl
def pt(G:ai)(N:Nat)(i:aa->aa->aa->aa->af->O)(k l:aa)(a e B:aa)(H:af):O:=ay (D B) (aw H (G 64 [a,I J 4] H) λaE h=>i k l a e h) (aw H (G 63 [a,X [114,101,99,111,114,100]] H) λC h=>ay (D C) (ad (aL a) λE=>ad (ak P 104 E 1) λF=>ad (ah P h 3 F) λK=>ad (al P .add 3 V K (I J 1)) λL=>ad (aL a) λM=>ad (ak P 104 M 1) λQ=>aF h (aC P h 3 Q L) λf=>aw f (G 65 [a] f) λR b=>ad (ak P 55 e 0) λo=>ad (ah P b 51 o) λp=>aK b (bd P (b).next 51 1 [(0,R)]) λS c=>aw c (bx P c [51,51] p S) λT d=>ad (ak P 55 e 0) λW=>aF d (aC P d 51 W T) λg=>bif ((aJ (ah P f 51 o) p&&(aJ (ah P b 51 o) p&&(aJ (ah P c 51 o) p&&V)))&&V)then(i k l a e g)else Y) (aw h (G 63 [a,X [103,108,111,98,97,108]] h) λab f=>ay (D ab) (ad (aL a) λae=>ad (ak P 104 ae 1) λaj=>ad (ah P f 3 aj) λam=>ad (al P .add 3 V am (I J 1)) λan=>ad (aL a) λap=>ad (ak P 104 ap 1) λaq=>aF f (aC P f 3 aq an) λb=>aw b (G 66 [a] b) λar c=>ad (ak P 55 e 1) λq=>ad (ah P c 52 q) λr=>aK c (bd P (c).next 52 1 [(0,ar)]) λau d=>aw d (bx P d [52,52] r au) λav g=>ad (ak P 55 e 1) λax=>aF g (aC P g 52 ax av) λj=>bif ((aJ (ah P b 52 q) r&&(aJ (ah P c 52 q) r&&(aJ (ah P d 52 q) r&&V)))&&V)then(aw j (G 67 [a,X [59]] j) λaG s=>i k l a e s)else Y) (aw f (G 63 [a,X [102,117,110,99]] f) λaz b=>ay (D az) (ad (aL a) λaA=>ad (ak P 104 aA 1) λaB=>ad (ah P b 3 aB) λt=>ad (al P .add 3 V t (I J 1)) λu=>ad (aL a) λv=>ad (ak P 104 v 1) λw=>aF b (aC P b 3 w u) λc=>aw c (G 68 [a] c) λx d=>ad (ak P 55 e 2) λm=>ad (ah P d 53 m) λn=>aK d (bd P (d).next 53 1 [(0,x)]) λy g=>aw g (bx P g [53,53] n y) λz j=>ad (ak P 55 e 2) λA=>aF j (aC P j 53 A z) λs=>bif ((aJ (ah P c 53 m) n&&(aJ (ah P d 53 m) n&&(aJ (ah P g 53 m) n&&V)))&&V)then(i k l a e s)else Y) (aw b (G 64 [a,I J 2] b) λaD c=>i k l a e c))))
def aoX(G:ai)(N:Nat)(a:aa->aa->aa->aa->af->O):∀C H,aD P G N (ae (aq (aq (ae (aq (aq (aq (ae (ae (ae (ae (ae (aG Tryz.f32))))))))))))) (λC H=>a (C 2) (C 3) (C 6) (C 7) H) [(2,(λC H=>a (C 2) (C 3) (C 6) (C 7) H)),(1,(λC H=>a (C 2) (C 3) (C 6) (C 7) H)),(0,(λC H=>ps G N (C 2) (C 3) (C 6) (C 7) H))] (ax Tryz.f32) C H=pt G N a (C 2) (C 3) (C 6) (C 7) (C 31) H:=by
 refine aI (aj _) λC H=> ?_
 delta pt;kernel_rfl
def HB(G:ai)(N:Nat)(i:aa->aa->aa->aa->af->O)(g h:aa)(a b:aa)(H:af):O:=aw H (G 61 [a] H) λc z=>au c V z (aV a) λR l=>au c V l (λq=>bq l (G 62 [R] l) q) λS K=>au c V K (aE (dc P 106 S 0)) λT L=>au c V L (aE (al P .neq 3 V T (I J 0))) λW m=>ad (aU c (D W) (D (Z U))) λab=>ay (D ab) (aw m (G 63 [a,X [114,101,99,111,114,100]] m) λd M=>au d V M (aE (ak P 55 b 0)) λae s=>au d V s (qr (ah P s 51 ae)) λu t=>au d V t (λq=>bE (a6 P .empty .len [51] [u]) (a6 P t .len [51] [u]) q) λaj Q=>au d V Q (aE (al P .eql 3 V aj (I J 12))) λam j=>ad (aU d (D am) (D (Z U))) λv=>ay (D v) (pt G N i g h a b v j) (aw j (G 63 [a,X [103,108,111,98,97,108]] j) λe A=>au e V A (aE (ak P 55 b 1)) λan n=>au e V n (qr (ah P n 52 an)) λw o=>au e V o (λq=>bE (a6 P .empty .len [52] [w]) (a6 P o .len [52] [w]) q) λap B=>au e V B (aE (al P .eql 3 V ap (I J 8))) λaq k=>ad (aU e (D aq) (D (Z U))) λx=>ay (D x) (pt G N i g h a b x k) (aw k (G 63 [a,X [102,117,110,99]] k) λf C=>au f V C (aE (ak P 55 b 2)) λar p=>au f V p (qr (ah P p 53 ar)) λy r=>au f V r (λq=>bE (a6 P .empty .len [53] [y]) (a6 P r .len [53] [y]) q) λav E=>au f V E (aE (al P .eql 3 V av (I J 16))) λax F=>ad (aU f (D ax) (D (Z U))) λaz=>pt G N i g h a b az F))) (ps G N g h a b m)
def wb(G:ai)(N:Nat):Nat->aa->aa->aa->aa->af->O
 |0,_,_,_,_,_=>Y
 |n+1,a,b,c,d,H=>HB G N (wb G N n) a b c d H
def aoU(G:ai)(N:Nat)(a:aa->aa->aa->aa->af->O):∀C H,aD P G N (aq (aq (aq (ae (ae (ae (ae (ae (aG Tryz.f32))))))))) (λC H=>a (C 2) (C 3) (C 6) (C 7) H) [(0,(λC H=>ps G N (C 2) (C 3) (C 6) (C 7) H))] (ax Tryz.f32) C H=HB G N a (C 2) (C 3) (C 6) (C 7) H:=by
 refine aI ((ar j ((aX j ((aX j ((ar j (aoX G N a) (aj _))))))) (aj _))) λC H=> ?_
 delta HB;generalize ps G N=b;generalize pt G N a=c;revert b c;refine id ?_;intro b c;kernel_rfl
def pr(G:ai)(N:Nat)(n:aa)(H:af):O:=ba H [aa.ao,aa.ao,aa.ao] λf k=>ba k [I J 0,I J 0] λg h=>aw h (G 60 [n] h) λj l=>ad (bJ j 0) λo=>ad (bJ j 1) λp=>ba l [I J 0,I J 0] λd i=>aF i (aC P i 58 d p) λa=>ad (ak P 58 d 0) λq=>ad (ah P a 56 q) λs=>ad (al P .neq 56 V s (I J 0)) λt=>ay (D t) (aF a (aC P a 55 f (.agg [aa.ao,aa.ao,aa.ao])) λb=>ad (ah P b 58 d) λe=>aF b (aC P b 58 g e) λc=>bif ((aJ (ah P a 58 d) e&&(aJ (ah P b 58 d) e&&V))&&V)then(ad (ah P c 55 f) λr=>ad (ah P c 58 g) λm=>D (.tuple [r,m],c))else Y) (ad (bo P 104 [(0,o)]) λu=>aK a (bl (a).next u) λv b=>ba b [aa.ao,aa.ao,aa.ao] λw c=>wb G N N f g v w c)
def aoV(G:ai)(N:Nat)(b:aa)(H:af):aB Tryz.f32 G N (aO [b]) H=pr G N b H:=by
 refine aT (A:=aB Tryz.f32 G N) ((ar j ((ar j ((ar j ((ar j ((ar j ((ar j (aoW G N) ((aX j ((a_ (k:=λm C H=>wb G N m (C 2) (C 3) (C 6) (C 7) H) j (λC H=>j) (λm=>aoU G N (wb G N m)))))))) (aj _))) (aj _))) (aj _))) (aj _))) (aj _))) ?_;delta pr;generalize wb G N N=a;revert a;refine id ?_;intro a;kernel_rfl
def wI(G:ai)(N:Nat)(e d g:aa)(H:af):O:=a1 P .len [9] [e] H λf=>ad (bo P 106 [(0,(I J 0)),(3,f)]) λh=>aK H (bd P (H).next 99 1 [(0,h)]) λi a=>aw a (bx P a [99,99] g i) λj b=>aF b (aC P b 58 d (.agg [I J 0,I J 0])) λc=>ad (ah P c 58 d) λr=>D (.tuple [j,r],c)
def apI(G:ai)(N:Nat):∀C H,aD P G N (ae (ae (ae (ae (ae (aG Tryz.f60)))))) (ax Tryz.f60) [] (ax Tryz.f60) C H=wI G N (C 0) (C 3) (C 4) H:=by
 refine aI (aj _) λC H=> ?_
 delta wI;kernel_rfl
def HP(G:ai)(N:Nat)(l:aa->aa->aa->aa->af->O)(c d:aa)(j e:aa)(H:af):O:=a1 P .len [9] [c] H λo=>ad (al P .lss 3 U e o) λp=>ay (D p) (aw H (G 117 [c,e] H) λh m=>ad (bJ h 0) λq=>ad (bJ h 1) λi=>ba m [I J 0,X [],I J 0,I J 0] λk f=>aF f (aC P f 106 k q) λa=>ad (al P .eql 3 V i (I J 0)) λs=>ay (D s) (ad (bo P 58 [(0,(I J 1)),(1,e)]) λt=>aF a (aC P a 58 d t) λb=>ad (ah P b 58 d) λr=>D (.tuple [aa.ao,r],b)) (ad (ah P a 106 k) λu=>aK a (bd P (a).next 99 1 [(0,u)]) λv b=>aw b (bx P b [99,99] j v) λw g=>ad (al P .add 3 U e i) λx=>aw g (G 116 [c,x] g) λy n=>l c d w y n)) (wI G N c d j H)
def wJ(G:ai)(N:Nat):Nat->aa->aa->aa->aa->af->O
 |0,_,_,_,_,_=>Y
 |n+1,a,b,c,d,H=>HP G N (wJ G N n) a b c d H
def apG(G:ai)(N:Nat)(b:aa->aa->aa->aa->af->O):∀C H,aD P G N (aq (aq (aq (ae (ae (ae (ae (aG Tryz.f60)))))))) (λC H=>b (C 0) (C 3) (C 4) (C 5) H) [(0,(λC H=>wI G N (C 0) (C 3) (C 4) H))] (ax Tryz.f60) C H=HP G N b (C 0) (C 3) (C 4) (C 5) H:=by
 refine aI (aj _) λC H=> ?_
 delta HP;generalize wI G N=a;revert a;refine id ?_;intro a;kernel_rfl
def ml(G:ai)(N:Nat)(c:aa)(H:af):O:=ba H [I J 0,I J 0] λd a=>a1 P .len [9] [c] a λg=>ad (al P .gtr 3 V g (I J 6000)) λe=>ay (D e) (aF a (aC P a 58 d (.agg [I J 4,I J 0])) λb=>ad (ah P b 58 d) λr=>D (.tuple [aa.ao,r],b)) (aw a (G 116 [c,I J 0] a) λf b=>wJ G N N c d aa.ao f b)
def apH(G:ai)(N:Nat)(b:aa)(H:af):aB Tryz.f60 G N (aO [b]) H=ml G N b H:=by
 refine aT (A:=aB Tryz.f60 G N) ((ar j ((ar j ((ar j ((ar j ((ar j (apI G N) ((aX j ((a_ (k:=λm C H=>wJ G N m (C 0) (C 3) (C 4) (C 5) H) j (λC H=>j) (λm=>apG G N (wJ G N m)))))))) (aj _))) (aj _))) (aj _))) (aj _))) ?_;delta ml;generalize wJ G N N=a;revert a;refine id ?_;intro a;kernel_rfl
def mm(G:ai)(a:aa)(H:af):O:=ad (aL a) λb=>ad (ak P 104 b 3) λc=>ad (ak P 58 c 0) λd=>ad (ah P H 56 d) λe=>ad (al P .eql 56 V e (I J 0)) λf=>D (f,H)
def apJ(G:ai)(N:Nat)(a:aa)(H:af):aB Tryz.f61 G N (aO [a]) H=mm G a H:=by
 refine aT (A:=aB Tryz.f61 G N) (aj _) ?_;delta mm;kernel_rfl
def mo(G:ai)(d:aa)(H:af):O:=ba H [I J 0,X [],I J 0,I J 0] λe f=>ad (aL d) λQ=>ad (ak P 104 Q 1) λR=>ad (ah P f 3 R) λS=>ad (al P .lss 3 V S (I J 0)) λa=>au a U f (aV d) λT l=>au a U l (aE (aL T)) λs m=>au a U m (aE (ak P 104 s 1)) λt g=>au a U g (qr (ah P g 3 t)) λu n=>au a U n (aV d) λv o=>au a U o (aE (aL v)) λw p=>au a U p (aE (ak P 104 w 0)) λx h=>au a U h (qr (ah P h 99 x)) λj i=>au a U i (λq=>bE (a6 P .empty .len [99] [j]) (a6 P i .len [99] [j]) q) λy k=>au a U k (aE (al P .geq 3 U u y)) λz b=>ad (aU a (D (Z V)) (D z)) λA=>ay (D A) (aF b (aC P b 106 e (.agg [I J 0,X [],I J 0,I J 0])) λc=>ad (ah P c 106 e) λr=>D (r,c)) (ad (aL d) λB=>ad (ak P 104 B 0) λC=>ad (ah P b 99 C) λE=>ad (aL d) λF=>ad (ak P 104 F 1) λK=>ad (ah P b 3 K) λL=>ad (aH P 99 E L) λM=>ad (ah P b 106 M) λN=>aF b (aC P b 106 e N) λc=>ad (ah P c 106 e) λr=>D (r,c))
def apK(G:ai)(N:Nat)(a:aa)(H:af):aB Tryz.f62 G N (aO [a]) H=mo G a H:=by
 refine aT (A:=aB Tryz.f62 G N) (aj _) ?_;delta mo;kernel_rfl
def wK(G:ai)(m n:aa)(e x:aa)(H:af):O:=aw H (G 61 [m] H) λa f=>au a V f (aE (ak P 106 e 0)) λo c=>au a V c (qr (ah P c 3 o)) λp g=>au a V g (aV x) λq h=>au a V h (aE (al P .eql 3 U p q)) λr i=>ad (aU a (D r) (D (Z U))) λb=>au b V i (aE (ak P 106 e 1)) λs d=>au b V d (qr (ah P d 9 s)) λt j=>au b V j (aV n) λu k=>au b V k (aE (al P .eql 9 U t u)) λv l=>ad (aU b (D v) (D (Z U))) λw=>D (w,l)
def apM(G:ai)(N:Nat):∀C H,aD P G N (ae (ae (ae (ae (aG Tryz.f63))))) (ax Tryz.f63) [] (ax Tryz.f63) C H=wK G (C 0) (C 1) (C 5) (C 6) H:=by
 refine aI (aj _) λC H=> ?_
 delta wK;kernel_rfl
def mq(G:ai)(c a:aa)(H:af):O:=aw H (G 62 [c] H) λp g=>ba g [I J 0,X [],I J 0,I J 0] λd e=>aF e (aC P e 106 d p) λh=>ad (fv P 9 a (I J 0)) λk=>ad (al P .geq 5 V k (I .u8 97)) λb=>au b V h (aV a) λl i=>au b V i (aE (fv P 9 l (I J 0))) λm j=>au b V j (aE (al P .leq 5 V m (I .u8 122))) λn f=>ad (aU b (D n) (D (Z U))) λo=>ay (D o) (wK G c a d (I J 3) f) (wK G c a d (I J 4) f)
def apL(G:ai)(N:Nat)(b:aa)(c:aa)(H:af):aB Tryz.f63 G N (aO [b,c]) H=mq G b c H:=by
 refine aT (A:=aB Tryz.f63 G N) ((ar j ((ar j ((ar j ((ar j (apM G N) (aj _))) (aj _))) (aj _))) (aj _))) ?_;delta mq;generalize wK G=a;revert a;refine id ?_;intro a;kernel_rfl
def py(G:ai)(b e:aa)(H:af):O:=aw H (G 61 [b] H) λj a=>ay (D j) (aw a (G 62 [b] a) λk c=>ad (dc P 106 k 3) λf=>ad (bo P 58 [(0,e),(1,f)]) λg=>ad (aL b) λh=>ad (ak P 104 h 3) λi=>aF c (aC P c 58 i g) λd=>D (.tuple [],d)) (D (.tuple [],a))
def apN(G:ai)(N:Nat)(a:aa)(b:aa)(H:af):aB Tryz.f64 G N (aO [a,b]) H=py G a b H:=by
 refine aT (A:=aB Tryz.f64 G N) (aj _) ?_;delta py;kernel_rfl
def pA(G:ai)(N:Nat)(d c e:aa)(H:af):O:=aw H (G 67 [d,X [125]] H) λg a=>ad (ah P a 111 e) λf=>aF a (aC P a 111 c f) λb=>ad (ah P b 111 c) λr=>D (r,b)
def apQ(G:ai)(N:Nat):∀C H,aD P G N (ae (ae (ae (ae (ae (aG Tryz.f65)))))) (ax Tryz.f65) [] (ax Tryz.f65) C H=pA G N (C 0) (C 2) (C 3) H:=by
 refine aI (aj _) λC H=> ?_
 delta pA;kernel_rfl
def HQ(G:ai)(N:Nat)(s:aa->aa->aa->af->O)(a l c:aa)(H:af):O:=aw H (G 61 [a] H) λf t=>au f V t (aV a) λy j=>au f V j (λq=>bq j (G 63 [y,X [125]] j) q) λz v=>au f V v (aE (bu .not z)) λA k=>ad (aU f (D A) (D (Z U))) λB=>ay (D B) (aw k (G 62 [a] k) λC w=>ad (dc P 106 C 0) λE=>ad (al P .eql 3 V E (I J 1)) λe=>au e V w (aE (ak P 111 c 1)) λF o=>au e V o (qr (ah P o 52 F)) λr p=>au e V p (λq=>bE (a6 P .empty .len [52] [r]) (a6 P p .len [52] [r]) q) λK x=>au e V x (aE (al P .eql 3 V K (I J 8))) λL d=>ad (aU e (D L) (D (Z U))) λM=>ay (D M) (aw d (G 64 [a,I J 4] d) λW b=>pA G N a l c b) (aw d (G 66 [a] d) λQ b=>ad (ak P 111 c 1) λg=>ad (ah P b 52 g) λh=>aK b (bd P (b).next 52 1 [(0,Q)]) λR i=>aw i (bx P i [52,52] h R) λS m=>ad (ak P 111 c 1) λT=>aF m (aC P m 52 T S) λn=>bif ((aJ (ah P d 52 g) h&&(aJ (ah P b 52 g) h&&(aJ (ah P i 52 g) h&&V)))&&V)then(aw n (G 67 [a,X [59]] n) λab u=>s a l c u)else Y)) (pA G N a l c k)
def wL(G:ai)(N:Nat):Nat->aa->aa->aa->af->O
 |0,_,_,_,_=>Y
 |n+1,a,b,c,H=>HQ G N (wL G N n) a b c H
def apO(G:ai)(N:Nat)(b:aa->aa->aa->af->O):∀C H,aD P G N (aq (aq (aq (ae (ae (ae (ae (aG Tryz.f65)))))))) (λC H=>b (C 0) (C 2) (C 3) H) [(0,(λC H=>pA G N (C 0) (C 2) (C 3) H))] (ax Tryz.f65) C H=HQ G N b (C 0) (C 2) (C 3) H:=by
 refine aI (aj _) λC H=> ?_
 delta HQ;generalize pA G N=a;revert a;refine id ?_;intro a;kernel_rfl
def pz(G:ai)(N:Nat)(a:aa)(H:af):O:=ba H [X [],aa.ao,I J 0] λk c=>aw c (G 62 [a] c) λl h=>ad (dc P 106 l 3) λm=>ad (bo P 111 [(2,m)]) λn=>ba h [X [],aa.ao,I J 0] λb d=>aF d (aC P d 111 b n) λe=>aw e (G 118 [a] e) λo f=>ad (ak P 111 b 0) λj=>aF f (aC P f 9 j o) λg=>aw g (G 67 [a,X [123]] g) λp i=>wL G N N a k b i
def apP(G:ai)(N:Nat)(b:aa)(H:af):aB Tryz.f65 G N (aO [b]) H=pz G N b H:=by
 refine aT (A:=aB Tryz.f65 G N) ((ar j ((ar j ((ar j ((ar j ((ar j (apQ G N) ((aX j ((a_ (k:=λm C H=>wL G N m (C 0) (C 2) (C 3) H) j (λC H=>j) (λm=>apO G N (wL G N m)))))))) (aj _))) (aj _))) (aj _))) (aj _))) ?_;delta pz;generalize wL G N N=a;revert a;refine id ?_;intro a;kernel_rfl
def pB(G:ai)(a:aa)(H:af):O:=ba H [X [],X [],I J 0,I J 0] λl d=>aw d (G 62 [a] d) λs m=>ad (dc P 106 s 3) λt=>ad (bo P 116 [(2,t)]) λu=>ba m [X [],X [],I J 0,I J 0] λb f=>aF f (aC P f 116 b u) λg=>aw g (G 118 [a] g) λv h=>ad (ak P 116 b 0) λn=>aF h (aC P h 9 n v) λi=>aw i (G 67 [a,X [58]] i) λw j=>aw j (G 119 [a] j) λo k=>ad (ak P 116 b 1) λp=>aF k (aC P k 114 p o) λc=>ad (ah P c 116 b) λq=>aF c (aC P c 116 l q) λe=>ad (ah P e 116 l) λr=>D (r,e)
def apR(G:ai)(N:Nat)(a:aa)(H:af):aB Tryz.f66 G N (aO [a]) H=pB G a H:=by
 refine aT (A:=aB Tryz.f66 G N) (aj _) ?_;delta pB;kernel_rfl
def pC(G:ai)(b d:aa)(H:af):O:=aw H (G 63 [b,d] H) λk a=>ad (bu .not k) λl=>ay (D l) (aw a (G 64 [b,I J 2] a) λm c=>D (.tuple [],c)) (ad (aL b) λe=>ad (ak P 104 e 1) λf=>ad (ah P a 3 f) λg=>ad (al P .add 3 V g (I J 1)) λh=>ad (aL b) λi=>ad (ak P 104 i 1) λj=>aF a (aC P a 3 j h) λc=>D (.tuple [],c))
def apS(G:ai)(N:Nat)(a:aa)(b:aa)(H:af):aB Tryz.f67 G N (aO [a,b]) H=pC G a b H:=by
 refine aT (A:=aB Tryz.f67 G N) (aj _) ?_;delta pC;kernel_rfl
def wM(G:ai)(N:Nat)(f d e:aa)(H:af):O:=aw H (G 120 [f] H) λg b=>ad (ak P 121 e 4) λh=>aF b (aC P b 119 h g) λa=>ad (ah P a 121 e) λi=>aF a (aC P a 121 d i) λc=>ad (ah P c 121 d) λr=>D (r,c)
def apW(G:ai)(N:Nat):∀C H,aD P G N (ae (ae (ae (ae (ae (ae (ae (aG Tryz.f68)))))))) (ax Tryz.f68) [] (ax Tryz.f68) C H=wM G N (C 0) (C 2) (C 3) H:=by
 refine aI (aj _) λC H=> ?_
 delta wM;kernel_rfl
def pE(G:ai)(N:Nat)(a h c:aa)(H:af):O:=aw H (G 67 [a,X [41]] H) λt d=>aw d (G 63 [a,X [58]] d) λj b=>ay (D j) (ad (aL a) λk=>ad (ak P 104 k 1) λl=>ad (ah P b 3 l) λm=>ad (al P .add 3 V m (I J 1)) λn=>ad (aL a) λo=>ad (ak P 104 o 1) λp=>aF b (aC P b 3 p n) λe=>ad (ak P 121 c 2) λq=>aF e (aC P e 4 q (Z V)) λf=>aw f (G 119 [a] f) λr g=>ad (ak P 121 c 3) λs=>aF g (aC P g 114 s r) λi=>wM G N a h c i) (wM G N a h c b)
def apV(G:ai)(N:Nat):∀C H,aD P G N (ae (ae (ae (ae (ae (aG Tryz.f68)))))) (ax Tryz.f68) [] (ax Tryz.f68) C H=pE G N (C 0) (C 2) (C 3) H:=by
 refine aI ((ar j ((ar j (apW G N) (aj _))) (aj _))) λC H=> ?_
 delta pE;generalize wM G N=a;revert a;refine id ?_;intro a;kernel_rfl
def HR(G:ai)(N:Nat)(j:aa->aa->aa->af->O)(a e b:aa)(H:af):O:=aw H (G 61 [a] H) λg w=>au g V w (aV a) λB n=>au g V n (λq=>bq n (G 63 [B,X [41]] n) q) λC y=>au g V y (aE (bu .not C)) λE o=>ad (aU g (D E) (D (Z U))) λF=>ay (D F) (aw o (G 62 [a] o) λK z=>ad (dc P 106 K 0) λL=>ad (al P .eql 3 V L (I J 1)) λf=>au f V z (aE (ak P 121 b 1)) λM t=>au f V t (qr (ah P t 52 M)) λv u=>au f V u (λq=>bE (a6 P .empty .len [52] [v]) (a6 P u .len [52] [v]) q) λQ A=>au f V A (aE (al P .eql 3 V Q (I J 6))) λR d=>ad (aU f (D R) (D (Z U))) λS=>ay (D S) (aw d (G 64 [a,I J 4] d) λap c=>pE G N a e b c) (aw d (G 66 [a] d) λT c=>ad (ak P 121 b 1) λh=>ad (ah P c 52 h) λi=>aK c (bd P (c).next 52 1 [(0,T)]) λW k=>aw k (bx P k [52,52] i W) λab p=>ad (ak P 121 b 1) λae=>aF p (aC P p 52 ae ab) λr=>bif ((aJ (ah P d 52 h) i&&(aJ (ah P c 52 h) i&&(aJ (ah P k 52 h) i&&V)))&&V)then(aw r (G 63 [a,X [41]] r) λaj l=>ad (bu .not aj) λam=>ay (D am) (aw l (G 67 [a,X [44]] l) λaq s=>aw s (G 63 [a,X [41]] s) λan m=>ay (D an) (aw m (G 64 [a,I J 2] m) λar x=>j a e b x) (j a e b m)) (j a e b l))else Y)) (pE G N a e b o)
def wN(G:ai)(N:Nat):Nat->aa->aa->aa->af->O
 |0,_,_,_,_=>Y
 |n+1,a,b,c,H=>HR G N (wN G N n) a b c H
def apT(G:ai)(N:Nat)(b:aa->aa->aa->af->O):∀C H,aD P G N (aq (aq (aq (ae (ae (ae (ae (aG Tryz.f68)))))))) (λC H=>b (C 0) (C 2) (C 3) H) [(0,(λC H=>pE G N (C 0) (C 2) (C 3) H))] (ax Tryz.f68) C H=HR G N b (C 0) (C 2) (C 3) H:=by
 refine aI (aj _) λC H=> ?_
 delta HR;generalize pE G N=a;revert a;refine id ?_;intro a;kernel_rfl
def pD(G:ai)(N:Nat)(a:aa)(H:af):O:=ba H [X [],aa.ao,Z U,X [],I J 0,aa.ao,I J 0] λk c=>aw c (G 62 [a] c) λl h=>ad (dc P 106 l 3) λm=>ad (bo P 121 [(5,m)]) λn=>ba h [X [],aa.ao,Z U,X [],I J 0,aa.ao,I J 0] λb d=>aF d (aC P d 121 b n) λe=>aw e (G 118 [a] e) λo f=>ad (ak P 121 b 0) λj=>aF f (aC P f 9 j o) λg=>aw g (G 67 [a,X [40]] g) λp i=>wN G N N a k b i
def apU(G:ai)(N:Nat)(b:aa)(H:af):aB Tryz.f68 G N (aO [b]) H=pD G N b H:=by
 refine aT (A:=aB Tryz.f68 G N) ((ar j ((ar j ((ar j ((ar j ((ar j (apV G N) ((aX j ((a_ (k:=λm C H=>wN G N m (C 0) (C 2) (C 3) H) j (λC H=>j) (λm=>apT G N (wN G N m)))))))) (aj _))) (aj _))) (aj _))) (aj _))) ?_;delta pD;generalize wN G N N=a;revert a;refine id ?_;intro a;kernel_rfl
def o1(G:ai)(N:Nat)(a:aa)(H:af):O:=some (a,H)
def agw(G:ai)(N:Nat):∀C H,aD P G N (ae (ae (aG Tryz.f116))) (ax Tryz.f116) [] (ax Tryz.f116) C H=o1 G N (C 1) H:=by
 refine aI (aj _) λC H=> ?_
 delta o1;kernel_rfl
def Fz(G:ai)(N:Nat)(e:aa->aa->af->O)(f:aa->aa->af->O)(b c:aa)(H:af):O:=a1 P .len [9] [b] H λj=>ad (al P .lss 3 U c j) λa=>au a V H (aV b) λk g=>au a V g (aV c) λl h=>au a V h (aE (fv P 9 k l)) λm i=>au a V i (aE (al P .neq 5 V m (I .u8 10))) λn d=>ad (aU a (D n) (D (Z U))) λo=>ay (D o) (ad (al P .add 3 V c (I J 1)) λp=>f b p d) (e b c d)
def rp(G:ai)(N:Nat)(a:aa->aa->af->O):Nat->aa->aa->af->O
 |0,_,_,_=>Y
 |n+1,b,c,H=>Fz G N a (rp G N a n) b c H
def agu(G:ai)(N:Nat)(a:aa->aa->af->O)(c:aa->aa->af->O):∀C H,aD P G N (aq (aq (aq (ae (ae (ae (aq (aq (ae (aq (aq (aq (ae (aG Tryz.f116)))))))))))))) (λC H=>c (C 0) (C 1) H) [(3,(λC H=>a (C 0) (C 1) H)),(2,(λC H=>a (C 0) (C 1) H)),(1,(λC H=>a (C 0) (C 1) H)),(0,(λC H=>o1 G N (C 1) H))] (ax Tryz.f116) C H=Fz G N a c (C 0) (C 1) H:=by
 refine aI (aj _) λC H=> ?_
 delta Fz;generalize a=b;revert b;refine id ?_;intro b;kernel_rfl
def Fy(G:ai)(N:Nat)(h:aa->aa->af->O)(b a:aa)(H:af):O:=a1 P .len [9] [b] H λav=>ad (al P .lss 3 U a av) λaw=>ay (D aw) (ad (fv P 9 b a) λz=>ad (al P .eql 5 V z (I .u8 32)) λd=>au d U H (aV b) λA j=>au d U j (aV a) λB r=>au d U r (aE (fv P 9 A B)) λC s=>au d U s (aE (al P .eql 5 V C (I .u8 9))) λE t=>ad (aU d (D (Z V)) (D E)) λe=>au e U t (aV b) λF u=>au e U u (aV a) λK v=>au e U v (aE (fv P 9 F K)) λL w=>au e U w (aE (al P .eql 5 V L (I .u8 10))) λM x=>ad (aU e (D (Z V)) (D M)) λf=>au f U x (aV b) λQ y=>au f U y (aV a) λR k=>au f U k (aE (fv P 9 Q R)) λS l=>au f U l (aE (al P .eql 5 V S (I .u8 13))) λT g=>ad (aU f (D (Z V)) (D T)) λW=>ay (D W) (ad (al P .add 3 V a (I J 1)) λab=>h b ab g) (a1 P .len [9] [b] g λae=>ad (al P .sub 3 U ae a) λah=>ad (al P .geq 3 V ah (I J 2)) λc=>au c V g (aV b) λaj m=>au c V m (aV a) λak n=>au c V n (aV a) λam o=>au c V o (aE (al P .add 3 V am (I J 2))) λan p=>au c V p (aE (fK P 9 aj (D ak) (D an) Y)) λap q=>au c V q (aE (al P .eql 9 V ap (X [47,47]))) λaq i=>ad (aU c (D aq) (D (Z U))) λar=>ay (D ar) (rp G N h N b a i) (D (a,i)))) (o1 G N a H)
def rn(G:ai)(N:Nat):Nat->aa->aa->af->O
 |0,_,_,_=>Y
 |n+1,a,b,H=>Fy G N (rn G N n) a b H
def agt(G:ai)(N:Nat)(a:aa->aa->af->O):∀C H,aD P G N (aq (aq (aq (ae (aG Tryz.f116))))) (λC H=>a (C 0) (C 1) H) [(0,(λC H=>o1 G N (C 1) H))] (ax Tryz.f116) C H=Fy G N a (C 0) (C 1) H:=by
 refine aI ((ar j ((aX j ((aX j ((ar j ((bz j (aj _) ((ar j ((bz j ((aX j ((a_ (k:=λm C H=>rp G N a m (C 0) (C 1) H) j (λC H=>j) (λm=>agu G N a (rp G N a m)))))) (aj _))) (aj _))))) (aj _))))))) (aj _))) λC H=> ?_
 delta Fy;generalize o1 G N=b;generalize rp G N a N=c;revert b c;refine id ?_;intro b c;kernel_rfl
def zE(G:ai)(N:Nat)(a b:aa)(H:af):O:=rn G N N a b H
def agv(G:ai)(N:Nat)(b:aa)(c:aa)(H:af):aB Tryz.f116 G N (aO [b,c]) H=zE G N b c H:=by
 refine aT (A:=aB Tryz.f116 G N) ((ar j ((ar j (agw G N) ((aX j ((a_ (k:=λm C H=>rn G N m (C 0) (C 1) H) j (λC H=>j) (λm=>agt G N (rn G N m)))))))) (aj _))) ?_;delta zE;generalize rn G N N=a;revert a;refine id ?_;intro a;kernel_rfl
def zF(G:ai)(e a:aa)(H:af):O:=ba H [I J 0,X [],I J 0,I J 0] λc v=>ad (fv P 9 e a) λam=>aw v (G 175 [am] v) λan n=>ay (D an) (aw n (G 176 [e,a,Z U] n) λt g=>ad (al P .add 3 U a t) λap=>ad (fK P 9 e (D a) (D ap) Y) λp=>aw g (G 177 [p] g) λaq d=>ay (D aq) (ad (bo P 106 [(0,(I J 3)),(1,p),(3,a)]) λar=>aF d (aC P d 106 c ar) λb=>ad (ah P b 106 c) λr=>D (.tuple [r,t],b)) (aw d (G 178 [p] d) λav b=>ay (D av) (ad (bo P 106 [(0,(I J 1)),(1,p),(3,a)]) λax=>aF b (aC P b 106 c ax) λh=>ad (ah P h 106 c) λr=>D (.tuple [r,t],h)) (aF b (aC P b 106 c (.agg [I J 0,X [],I J 0,I J 0])) λh=>ad (ah P h 106 c) λr=>D (.tuple [r,I J 0],h)))) (ad (fv P 9 e a) λaz=>aw n (G 179 [az] n) λaA g=>ay (D aA) (aw g (G 176 [e,a,Z V] g) λk d=>ad (al P .add 3 U a k) λaB=>ad (fK P 9 e (D a) (D aB) Y) λaD=>aw d (G 180 [aD] d) λx b=>ad (bJ x 0) λaG=>ad (bJ x 1) λaH=>ad (bu .not aH) λl=>au l U b (aV k) λaI h=>au l U h (aE (al P .gtr 3 V aI (I J 1))) λaJ ab=>au l U ab (aV aJ) λm ae=>au m V ae (aV e) λaK aj=>au m V aj (aV a) λaL z=>au m V z (aE (fv P 9 aK aL)) λaM A=>au m V A (aE (al P .eql 5 V aM (I .u8 48))) λaN B=>au l U B (aE (aU m (D aN) (D (Z U)))) λaO C=>ad (aU l (D (Z V)) (D aO)) λf=>au f U C (aV a) λaP E=>au f U E (aV k) λaQ F=>au f U F (aE (al P .add 3 U aP aQ)) λaR K=>au f U K (aV e) λy w=>au f U w (λq=>bE (a6 P .empty .len [9] [y]) (a6 P w .len [9] [y]) q) λaS L=>au f U L (aE (al P .lss 3 U aR aS)) λaT M=>au f U M (aV aT) λi N=>au i V N (aV e) λaW Q=>au i V Q (aV a) λaX R=>au i V R (aV k) λaY S=>au i V S (aE (al P .add 3 U aX aY)) λaZ T=>au i V T (aE (fv P 9 aW aZ)) λa0 s=>au i V s (λq=>bq s (G 175 [a0] s) q) λa2 W=>au f U W (aE (aU i (D a2) (D (Z U)))) λa3 o=>ad (aU f (D (Z V)) (D a3)) λa4=>ay (D a4) (aF o (aC P o 106 c (.agg [I J 0,X [],I J 0,I J 0])) λj=>ad (ah P j 106 c) λr=>D (.tuple [r,I J 0],j)) (ad (bo P 106 [(0,(I J 2)),(2,aG),(3,a)]) λa5=>aF o (aC P o 106 c a5) λj=>ad (ah P j 106 c) λr=>D (.tuple [r,k],j))) (aw g (G 181 [e,a] g) λu d=>ad (al P .eql 9 V u (X [])) λa7=>ay (D a7) (aF d (aC P d 106 c (.agg [I J 0,X [],I J 0,I J 0])) λb=>ad (ah P b 106 c) λr=>D (.tuple [r,I J 0],b)) (ad (bo P 106 [(0,(I J 4)),(1,u),(3,a)]) λa8=>a1 P .len [9] [u] d λak=>aF d (aC P d 106 c a8) λb=>ad (ah P b 106 c) λr=>D (.tuple [r,ak],b))))
def agx(G:ai)(N:Nat)(a:aa)(b:aa)(H:af):aB Tryz.f117 G N (aO [a,b]) H=zF G a b H:=by
 refine aT (A:=aB Tryz.f117 G N) (aj _) ?_;delta zF;kernel_rfl
def zG(G:ai)(b:aa)(H:af):O:=aw H (G 62 [b] H) λw i=>ba i [I J 0,X [],I J 0,I J 0] λe f=>aF f (aC P f 106 e w) λg=>aw g (G 61 [b] g) λd j=>au d V j (aE (ak P 106 e 0)) λx h=>au d V h (qr (ah P h 3 x)) λl k=>au d V k (aE (al P .eql 3 V l (I J 1))) λm a=>ad (aU d (D m) (D (Z U))) λn=>ay (D n) (ad (aL b) λo=>ad (ak P 104 o 1) λp=>ad (ah P a 3 p) λq=>ad (al P .add 3 V q (I J 1)) λr=>ad (aL b) λs=>ad (ak P 104 s 1) λt=>aF a (aC P a 3 t r) λc=>ad (ak P 106 e 1) λu=>ad (ah P c 9 u) λv=>D (v,c)) (aw a (G 64 [b,I J 2] a) λy c=>D ((X []),c))
def agy(G:ai)(N:Nat)(a:aa)(H:af):aB Tryz.f118 G N (aO [a]) H=zG G a H:=by
 refine aT (A:=aB Tryz.f118 G N) (aj _) ?_;delta zG;kernel_rfl
def rr(G:ai)(N:Nat)(b c:aa)(H:af):O:=ad (ah P H 114 c) λd=>aF H (aC P H 114 b d) λa=>ad (ah P a 114 b) λr=>D (r,a)
def agE(G:ai)(N:Nat):∀C H,aD P G N (ae (ae (ae (ae (ae (ae (aG Tryz.f119))))))) (ax Tryz.f119) [] (ax Tryz.f119) C H=rr G N (C 2) (C 4) H:=by
 refine aI (aj _) λC H=> ?_
 delta rr;kernel_rfl
def FA(G:ai)(N:Nat)(f:aa->aa->aa->aa->aa->af->O)(a b:aa)(c d e:aa)(H:af):O:=ad (al P .lss 3 U e c) λh=>ay (D h) (aw H (G 67 [a,X [93]] H) λj g=>ad (al P .add 3 V e (I J 1)) λi=>f a b c d i g) (rr G N b d H)
def rv(G:ai)(N:Nat):Nat->aa->aa->aa->aa->aa->af->O
 |0,_,_,_,_,_,_=>Y
 |n+1,a,b,c,d,e,H=>FA G N (rv G N n) a b c d e H
def agz(G:ai)(N:Nat)(b:aa->aa->aa->aa->aa->af->O):∀C H,aD P G N (aq (aq (ae (aq (ae (ae (ae (ae (ae (aG Tryz.f119)))))))))) (λC H=>b (C 0) (C 2) (C 3) (C 4) (C 5) H) [(3,(λC H=>rr G N (C 2) (C 4) H))] (ax Tryz.f119) C H=FA G N b (C 0) (C 2) (C 3) (C 4) (C 5) H:=by
 refine aI (aj _) λC H=> ?_
 delta FA;generalize rr G N=a;revert a;refine id ?_;intro a;kernel_rfl
def mZ(G:ai)(N:Nat)(a b:aa)(c d:aa)(H:af):O:=rv G N N a b c d (I J 0) H
def agD(G:ai)(N:Nat):∀C H,aD P G N (ae (ae (ae (ae (ae (aG Tryz.f119)))))) (ax Tryz.f119) [] (ax Tryz.f119) C H=mZ G N (C 0) (C 2) (C 3) (C 4) H:=by
 refine aI ((ar j (agE G N) ((ar j ((aX j ((a_ (k:=λm C H=>rv G N m (C 0) (C 2) (C 3) (C 4) (C 5) H) j (λC H=>j) (λm=>agz G N (rv G N m)))))) (aj _))))) λC H=> ?_
 delta mZ;generalize rv G N N=a;revert a;refine id ?_;intro a;kernel_rfl
def ru(G:ai)(N:Nat)(a e:aa)(f d j:aa)(H:af):O:=ay (D j) (aw H (G 62 [a] H) λk b=>ad (dc P 106 k 1) λl=>ad (ak P 114 d 0) λm=>aF b (aC P b 9 m l) λc=>ad (aL a) λn=>ad (ak P 104 n 1) λo=>ad (ah P c 3 o) λp=>ad (al P .add 3 V p (I J 1)) λq=>ad (aL a) λr=>ad (ak P 104 r 1) λs=>aF c (aC P c 3 s q) λg=>mZ G N a e f d g) (aw H (G 118 [a] H) λh b=>ad (ak P 114 d 0) λi=>aF b (aC P b 9 i h) λc=>mZ G N a e f d c)
def agF(G:ai)(N:Nat):∀C H,aD P G N (ae (aq (aq (ae (ae (ae (ae (aG Tryz.f119)))))))) (λC H=>mZ G N (C 0) (C 2) (C 3) (C 4) H) [(2,(λC H=>mZ G N (C 0) (C 2) (C 3) (C 4) H))] (ax Tryz.f119) C H=ru G N (C 0) (C 2) (C 3) (C 4) (C 27) H:=by
 refine aI (aj _) λC H=> ?_
 delta ru;generalize mZ G N=a;revert a;refine id ?_;intro a;kernel_rfl
def rq(G:ai)(N:Nat)(a g c:aa)(H:af):O:=ad (bo P 114 [(1,c)]) λj=>ba H [X [],I J 0] λd e=>aF e (aC P e 114 d j) λf=>aw f (G 63 [a,X [105,110,116]] f) λh b=>ay (D h) (ru G N a g c d h b) (aw b (G 63 [a,X [98,111,111,108]] b) λk i=>ru G N a g c d k i)
def agC(G:ai)(N:Nat):∀C H,aD P G N (ae (ae (ae (aG Tryz.f119)))) (ax Tryz.f119) [] (ax Tryz.f119) C H=rq G N (C 0) (C 2) (C 3) H:=by
 refine aI ((ar j ((ar j (agD G N) ((aX j ((ar j (agF G N) (aj _))))))) (aj _))) λC H=> ?_
 delta rq;generalize ru G N=a;revert a;refine id ?_;intro a;kernel_rfl
def FB(G:ai)(N:Nat)(g:aa->aa->aa->af->O)(b d e:aa)(H:af):O:=aw H (G 63 [b,X [91]] H) λo a=>ay (D o) (ad (al P .eql 3 V e (I J 3)) λp=>ay (D p) (aw a (G 64 [b,I J 4] a) λq c=>aF c (aC P c 114 d (.agg [X [],I J 0])) λf=>ad (ah P f 114 d) λr=>D (r,f)) (ad (aL b) λh=>ad (ak P 104 h 1) λi=>ad (ah P a 3 i) λj=>ad (al P .add 3 V j (I J 1)) λk=>ad (aL b) λl=>ad (ak P 104 l 1) λm=>aF a (aC P a 3 m k) λc=>ad (al P .add 3 V e (I J 1)) λn=>g b d n c)) (rq G N b d e a)
def ry(G:ai)(N:Nat):Nat->aa->aa->aa->af->O
 |0,_,_,_,_=>Y
 |n+1,a,b,c,H=>FB G N (ry G N n) a b c H
def agA(G:ai)(N:Nat)(b:aa->aa->aa->af->O):∀C H,aD P G N (aq (aq (aq (ae (ae (aG Tryz.f119)))))) (λC H=>b (C 0) (C 2) (C 3) H) [(0,(λC H=>rq G N (C 0) (C 2) (C 3) H))] (ax Tryz.f119) C H=FB G N b (C 0) (C 2) (C 3) H:=by
 refine aI (aj _) λC H=> ?_
 delta FB;generalize rq G N=a;revert a;refine id ?_;intro a;kernel_rfl
def zH(G:ai)(N:Nat)(b:aa)(H:af):O:=ba H [X [],I J 0] λc a=>ry G N N b c (I J 0) a
def agB(G:ai)(N:Nat)(b:aa)(H:af):aB Tryz.f119 G N (aO [b]) H=zH G N b H:=by
 refine aT (A:=aB Tryz.f119 G N) ((ar j ((ar j ((ar j (agC G N) ((aX j ((a_ (k:=λm C H=>ry G N m (C 0) (C 2) (C 3) H) j (λC H=>j) (λm=>agA G N (ry G N m)))))))) (aj _))) (aj _))) ?_;delta zH;generalize ry G N N=a;revert a;refine id ?_;intro a;kernel_rfl
def rz(G:ai)(N:Nat)(b c:aa)(H:af):O:=aw H (G 184 [b,X [125]] H) λd a=>D (c,a)
def agI(G:ai)(N:Nat):∀C H,aD P G N (ae (ae (ae (ae (aG Tryz.f120))))) (ax Tryz.f120) [] (ax Tryz.f120) C H=rz G N (C 0) (C 3) H:=by
 refine aI (aj _) λC H=> ?_
 delta rz;kernel_rfl
def FC(G:ai)(N:Nat)(h:aa->aa->af->O)(a g:aa)(H:af):O:=aw H (G 61 [a] H) λb i=>au b V i (aV a) λs c=>au b V c (λq=>bq c (G 63 [s,X [125]] c) q) λl j=>au b V j (aE (bu .not l)) λm d=>ad (aU b (D m) (D (Z U))) λn=>ay (D n) (aw d (G 183 [a] d) λo e=>aK e (bd P (e).next 119 1 [(0,o)]) λp f=>aw f (bx P f [119,119] g p) λr k=>h a r k) (rz G N a g d)
def rA(G:ai)(N:Nat):Nat->aa->aa->af->O
 |0,_,_,_=>Y
 |n+1,a,b,H=>FC G N (rA G N n) a b H
def agG(G:ai)(N:Nat)(b:aa->aa->af->O):∀C H,aD P G N (aq (aq (aq (ae (ae (ae (aG Tryz.f120))))))) (λC H=>b (C 0) (C 3) H) [(0,(λC H=>rz G N (C 0) (C 3) H))] (ax Tryz.f120) C H=FC G N b (C 0) (C 3) H:=by
 refine aI (aj _) λC H=> ?_
 delta FC;generalize rz G N=a;revert a;refine id ?_;intro a;kernel_rfl
def zI(G:ai)(N:Nat)(a:aa)(H:af):O:=aw H (G 182 [a,X [123]] H) λc b=>rA G N N a aa.ao b
def agH(G:ai)(N:Nat)(b:aa)(H:af):aB Tryz.f120 G N (aO [b]) H=zI G N b H:=by
 refine aT (A:=aB Tryz.f120 G N) ((ar j ((ar j ((ar j ((ar j (agI G N) ((aX j ((a_ (k:=λm C H=>rA G N m (C 0) (C 3) H) j (λC H=>j) (λm=>agG G N (rA G N m)))))))) (aj _))) (aj _))) (aj _))) ?_;delta zI;generalize rA G N N=a;revert a;refine id ?_;intro a;kernel_rfl
def Ai(G:ai)(b:aa)(H:af):O:=ad (al P .geq 5 V b (I .u8 97)) λd=>au d V H (aV b) λs e=>au d V e (aE (al P .leq 5 V s (I .u8 122))) λt f=>ad (aU d (D t) (D (Z U))) λa=>au a U f (aV b) λm g=>au a U g (aE (al P .geq 5 V m (I .u8 65))) λn h=>au a U h (aV n) λc i=>au c V i (aV b) λo j=>au c V j (aE (al P .leq 5 V o (I .u8 90))) λp k=>au a U k (aE (aU c (D p) (D (Z U)))) λq l=>ad (aU a (D (Z V)) (D q)) λr=>D (r,l)
def aio(G:ai)(N:Nat)(a:aa)(H:af):aB Tryz.f175 G N (aO [a]) H=Ai G a H:=by
 refine aT (A:=aB Tryz.f175 G N) (aj _) ?_;delta Ai;kernel_rfl
def sz(G:ai)(N:Nat)(a:aa)(H:af):O:=some (a,H)
def air(G:ai)(N:Nat):∀C H,aD P G N (ae (ae (ae (aG Tryz.f176)))) (ax Tryz.f176) [] (ax Tryz.f176) C H=sz G N (C 7) H:=by
 refine aI (aj _) λC H=> ?_
 delta sz;kernel_rfl
def F_(G:ai)(N:Nat)(k:aa->aa->aa->aa->af->O)(e f:aa)(j d:aa)(H:af):O:=ad (al P .add 3 U f d) λB=>a1 P .len [9] [e] H λC=>ad (al P .lss 3 U B C) λa=>au a V H (aV e) λE l=>au a V l (aV f) λF u=>au a V u (aV d) λK v=>au a V v (aE (al P .add 3 U F K)) λL w=>au a V w (aE (fv P 9 E L)) λM h=>au a V h (λq=>bq h (G 179 [M] h) q) λQ x=>au a V x (aV Q) λc y=>au c U y (aV j) λR z=>au c U z (aE (bu .not R)) λS A=>au c U A (aV S) λb m=>au b V m (aV e) λT n=>au b V n (aV f) λW o=>au b V o (aV d) λab p=>au b V p (aE (al P .add 3 U W ab)) λae r=>au b V r (aE (fv P 9 T ae)) λah g=>au b V g (λq=>bq g (G 175 [ah] g) q) λaj s=>au c U s (aE (aU b (D aj) (D (Z U)))) λak t=>au a V t (aE (aU c (D (Z V)) (D ak))) λam i=>ad (aU a (D am) (D (Z U))) λan=>ay (D an) (ad (al P .add 3 V d (I J 1)) λap=>k e f j ap i) (sz G N d i)
def sA(G:ai)(N:Nat):Nat->aa->aa->aa->aa->af->O
 |0,_,_,_,_,_=>Y
 |n+1,a,b,c,d,H=>F_ G N (sA G N n) a b c d H
def aip(G:ai)(N:Nat)(b:aa->aa->aa->aa->af->O):∀C H,aD P G N (aq (aq (aq (ae (ae (aG Tryz.f176)))))) (λC H=>b (C 0) (C 1) (C 2) (C 7) H) [(0,(λC H=>sz G N (C 7) H))] (ax Tryz.f176) C H=F_ G N b (C 0) (C 1) (C 2) (C 7) H:=by
 refine aI (aj _) λC H=> ?_
 delta F_;generalize sz G N=a;revert a;refine id ?_;intro a;kernel_rfl
def Aj(G:ai)(N:Nat)(a b c:aa)(H:af):O:=sA G N N a b c (I J 0) H
def aiq(G:ai)(N:Nat)(b:aa)(c:aa)(d:aa)(H:af):aB Tryz.f176 G N (aO [b,c,d]) H=Aj G N b c d H:=by
 refine aT (A:=aB Tryz.f176 G N) ((ar j ((ar j ((ar j (air G N) ((aX j ((a_ (k:=λm C H=>sA G N m (C 0) (C 1) (C 2) (C 7) H) j (λC H=>j) (λm=>aip G N (sA G N m)))))))) (aj _))) (aj _))) ?_;delta Aj;generalize sA G N N=a;revert a;refine id ?_;intro a;kernel_rfl
def sB(G:ai)(N:Nat)(H:af):O:=some ((Z U),H)
def aiu(G:ai)(N:Nat):∀C H,aD P G N (ae (ae (ae (aG Tryz.f177)))) (ax Tryz.f177) [] (ax Tryz.f177) C H=sB G N H:=by
 refine aI (aj _) λC H=> ?_
 delta sB;kernel_rfl
def Ga(G:ai)(N:Nat)(d:aa->aa->aa->af->O)(c a b:aa)(H:af):O:=a1 P .len [77] [a] H λi=>ad (al P .lss 3 U b i) λj=>ay (D j) (ad (aH P 77 a b) λf=>ad (ah P H 9 f) λg=>ad (al P .eql 9 U g c) λh=>ay (D h) (D ((Z V),H)) (ad (al P .add 3 V b (I J 1)) λe=>d c a e H)) (sB G N H)
def sC(G:ai)(N:Nat):Nat->aa->aa->aa->af->O
 |0,_,_,_,_=>Y
 |n+1,a,b,c,H=>Ga G N (sC G N n) a b c H
def ais(G:ai)(N:Nat)(b:aa->aa->aa->af->O):∀C H,aD P G N (aq (aq (ae (aq (ae (ae (aG Tryz.f177))))))) (λC H=>b (C 0) (C 3) (C 4) H) [(0,(λC H=>sB G N H))] (ax Tryz.f177) C H=Ga G N b (C 0) (C 3) (C 4) H:=by
 refine aI (aj _) λC H=> ?_
 delta Ga;generalize sB G N=a;revert a;refine id ?_;intro a;kernel_rfl
def Ak(G:ai)(N:Nat)(b:aa)(H:af):O:=aw H (G 221 [] H) λc a=>sC G N N b c (I J 0) a
def ait(G:ai)(N:Nat)(b:aa)(H:af):aB Tryz.f177 G N (aO [b]) H=Ak G N b H:=by
 refine aT (A:=aB Tryz.f177 G N) ((ar j ((ar j ((ar j (aiu G N) ((ar j ((aX j ((a_ (k:=λm C H=>sC G N m (C 0) (C 3) (C 4) H) j (λC H=>j) (λm=>ais G N (sC G N m)))))) (aj _))))) (aj _))) (aj _))) ?_;delta Ak;generalize sC G N N=a;revert a;refine id ?_;intro a;kernel_rfl
def sD(G:ai)(N:Nat)(H:af):O:=some ((Z V),H)
def aix(G:ai)(N:Nat):∀C H,aD P G N (ae (ae (ae (aG Tryz.f178)))) (ax Tryz.f178) [] (ax Tryz.f178) C H=sD G N H:=by
 refine aI (aj _) λC H=> ?_
 delta sD;kernel_rfl
def Gb(G:ai)(N:Nat)(f:aa->aa->af->O)(b c:aa)(H:af):O:=a1 P .len [9] [b] H λk=>ad (al P .lss 3 U c k) λl=>ay (D l) (ad (fv P 9 b c) λn=>aw H (G 175 [n] H) λo g=>ad (bu .not o) λa=>au a V g (aV b) λp h=>au a V h (aV c) λr i=>au a V i (aE (fv P 9 p r)) λs d=>au a V d (λq=>bq d (G 179 [s] d) q) λt j=>au a V j (aE (bu .not t)) λu e=>ad (aU a (D u) (D (Z U))) λv=>ay (D v) (D ((Z U),e)) (ad (al P .add 3 V c (I J 1)) λm=>f b m e)) (sD G N H)
def sE(G:ai)(N:Nat):Nat->aa->aa->af->O
 |0,_,_,_=>Y
 |n+1,a,b,H=>Gb G N (sE G N n) a b H
def aiv(G:ai)(N:Nat)(b:aa->aa->af->O):∀C H,aD P G N (aq (aq (ae (aq (ae (ae (aG Tryz.f178))))))) (λC H=>b (C 0) (C 3) H) [(0,(λC H=>sD G N H))] (ax Tryz.f178) C H=Gb G N b (C 0) (C 3) H:=by
 refine aI (aj _) λC H=> ?_
 delta Gb;generalize sD G N=a;revert a;refine id ?_;intro a;kernel_rfl
def Al(G:ai)(N:Nat)(a:aa)(H:af):O:=a1 P .len [9] [a] H λx=>ad (al P .lss 3 V x (I J 1)) λc=>au c U H (aV a) λi g=>au c U g (λq=>bE (a6 P .empty .len [9] [i]) (a6 P g .len [9] [i]) q) λy j=>au c U j (aE (al P .gtr 3 V y (I J 8))) λo k=>ad (aU c (D (Z V)) (D o)) λb=>au b U k (aV a) λp l=>au b U l (aE (fv P 9 p (I J 0))) λr d=>au b U d (λq=>bq d (G 175 [r] d) q) λs m=>au b U m (aE (bu .not s)) λt n=>ad (aU b (D (Z V)) (D t)) λf=>au f U n (aV a) λu e=>au f U e (λq=>bq e (G 177 [u] e) q) λv h=>ad (aU f (D (Z V)) (D v)) λw=>ay (D w) (D ((Z U),h)) (sE G N N a (I J 0) h)
def aiw(G:ai)(N:Nat)(b:aa)(H:af):aB Tryz.f178 G N (aO [b]) H=Al G N b H:=by
 refine aT (A:=aB Tryz.f178 G N) ((ar j ((ar j ((ar j (aix G N) ((ar j ((aX j ((a_ (k:=λm C H=>sE G N m (C 0) (C 3) H) j (λC H=>j) (λm=>aiv G N (sE G N m)))))) (aj _))))) (aj _))) (aj _))) ?_;delta Al;generalize sE G N N=a;revert a;refine id ?_;intro a;kernel_rfl
def Am(G:ai)(b:aa)(H:af):O:=ad (al P .geq 5 V b (I .u8 48)) λa=>au a V H (aV b) λe c=>au a V c (aE (al P .leq 5 V e (I .u8 57))) λf d=>ad (aU a (D f) (D (Z U))) λg=>D (g,d)
def aiy(G:ai)(N:Nat)(a:aa)(H:af):aB Tryz.f179 G N (aO [a]) H=Am G a H:=by
 refine aT (A:=aB Tryz.f179 G N) (aj _) ?_;delta Am;kernel_rfl
def sF(G:ai)(N:Nat)(a:aa)(H:af):O:=some (.tuple [a,Z V],H)
def aiB(G:ai)(N:Nat):∀C H,aD P G N (ae (ae (ae (aG Tryz.f180)))) (ax Tryz.f180) [] (ax Tryz.f180) C H=sF G N (C 4) H:=by
 refine aI (aj _) λC H=> ?_
 delta sF;kernel_rfl
def Gc(G:ai)(N:Nat)(e:aa->aa->aa->af->O)(a b c:aa)(H:af):O:=a1 P .len [9] [a] H λo=>ad (al P .lss 3 U c o) λf=>ay (D f) (ad (fv P 9 a c) λh=>ad (al P .sub 5 V h (I .u8 48)) λi=>ka P 5 3 i H λd=>ad (al P .sub 3 V (I J 9223372036854775807) d) λj=>ad (al P .quo 3 V j (I J 10)) λk=>ad (al P .gtr 3 U b k) λl=>ay (D l) (D (.tuple [I J 0,Z U],H)) (ad (al P .mul 3 V (I J 10) b) λm=>ad (al P .add 3 U m d) λn=>ad (al P .add 3 V c (I J 1)) λg=>e a n g H)) (sF G N b H)
def sG(G:ai)(N:Nat):Nat->aa->aa->aa->af->O
 |0,_,_,_,_=>Y
 |n+1,a,b,c,H=>Gc G N (sG G N n) a b c H
def aiz(G:ai)(N:Nat)(b:aa->aa->aa->af->O):∀C H,aD P G N (aq (aq (ae (aq (ae (ae (aG Tryz.f180))))))) (λC H=>b (C 0) (C 4) (C 5) H) [(0,(λC H=>sF G N (C 4) H))] (ax Tryz.f180) C H=Gc G N b (C 0) (C 4) (C 5) H:=by
 refine aI (aj _) λC H=> ?_
 delta Gc;generalize sF G N=a;revert a;refine id ?_;intro a;kernel_rfl
def An(G:ai)(N:Nat)(a:aa)(H:af):O:=sG G N N a (I J 0) (I J 0) H
def aiA(G:ai)(N:Nat)(b:aa)(H:af):aB Tryz.f180 G N (aO [b]) H=An G N b H:=by
 refine aT (A:=aB Tryz.f180 G N) ((ar j ((ar j ((ar j (aiB G N) ((ar j ((aX j ((a_ (k:=λm C H=>sG G N m (C 0) (C 4) (C 5) H) j (λC H=>j) (λm=>aiz G N (sG G N m)))))) (aj _))))) (aj _))) (aj _))) ?_;delta An;generalize sG G N N=a;revert a;refine id ?_;intro a;kernel_rfl
def sI(G:ai)(N:Nat)(H:af):O:=some ((X []),H)
def aiG(G:ai)(N:Nat):∀C H,aD P G N (ae (ae (ae (ae (ae (aG Tryz.f181)))))) (ax Tryz.f181) [] (ax Tryz.f181) C H=sI G N H:=by
 refine aI (aj _) λC H=> ?_
 delta sI;kernel_rfl
def Gd(G:ai)(N:Nat)(e:aa->aa->aa->aa->af->O)(c d:aa)(b a:aa)(H:af):O:=a1 P .len [9] [b] H λf=>ad (al P .lss 3 U a f) λg=>ay (D g) (ad (fv P 9 c d) λi=>ad (fv P 9 b a) λj=>ad (al P .eql 5 U i j) λk=>ay (D k) (ad (al P .add 3 V a (I J 1)) λl=>ad (fK P 9 b (D a) (D l) Y) λm=>D (m,H)) (ad (al P .add 3 V a (I J 1)) λh=>e c d b h H)) (sI G N H)
def sJ(G:ai)(N:Nat):Nat->aa->aa->aa->aa->af->O
 |0,_,_,_,_,_=>Y
 |n+1,a,b,c,d,H=>Gd G N (sJ G N n) a b c d H
def aiC(G:ai)(N:Nat)(b:aa->aa->aa->aa->af->O):∀C H,aD P G N (aq (aq (ae (aq (ae (ae (ae (ae (aG Tryz.f181))))))))) (λC H=>b (C 0) (C 1) (C 7) (C 8) H) [(2,(λC H=>sI G N H))] (ax Tryz.f181) C H=Gd G N b (C 0) (C 1) (C 7) (C 8) H:=by
 refine aI (aj _) λC H=> ?_
 delta Gd;generalize sI G N=a;revert a;refine id ?_;intro a;kernel_rfl
def sH(G:ai)(N:Nat)(a b:aa)(H:af):O:=sJ G N N a b (X [123,125,40,41,91,93,59,58,44,46,61,43,45,42,47,37,60,33]) (I J 0) H
def aiF(G:ai)(N:Nat):∀C H,aD P G N (ae (ae (ae (aG Tryz.f181)))) (ax Tryz.f181) [] (ax Tryz.f181) C H=sH G N (C 0) (C 1) H:=by
 refine aI ((ar j ((ar j (aiG G N) ((ar j ((aX j ((a_ (k:=λm C H=>sJ G N m (C 0) (C 1) (C 7) (C 8) H) j (λC H=>j) (λm=>aiC G N (sJ G N m)))))) (aj _))))) (aj _))) λC H=> ?_
 delta sH;generalize sJ G N N=a;revert a;refine id ?_;intro a;kernel_rfl
def Ge(G:ai)(N:Nat)(h:aa->aa->aa->aa->af->O)(c b:aa)(d e:aa)(H:af):O:=a1 P .len [77] [d] H λq=>ad (al P .lss 3 U e q) λr=>ay (D r) (a1 P .len [9] [c] H λt=>ad (al P .sub 3 U t b) λu=>ad (al P .geq 3 V u (I J 2)) λa=>au a V H (aV c) λv i=>au a V i (aV b) λw j=>au a V j (aV b) λx k=>au a V k (aE (al P .add 3 V x (I J 2))) λy l=>au a V l (aE (fK P 9 v (D w) (D y) Y)) λz m=>au a V m (aV d) λA n=>au a V n (aV e) λB o=>au a V o (aE (aH P 77 A B)) λC g=>au a V g (qr (ah P g 9 C)) λE p=>au a V p (aE (al P .eql 9 U z E)) λF f=>ad (aU a (D F) (D (Z U))) λK=>ay (D K) (ad (aH P 77 d e) λL=>ad (ah P f 9 L) λM=>D (M,f)) (ad (al P .add 3 V e (I J 1)) λs=>h c b d s f)) (sH G N c b H)
def sK(G:ai)(N:Nat):Nat->aa->aa->aa->aa->af->O
 |0,_,_,_,_,_=>Y
 |n+1,a,b,c,d,H=>Ge G N (sK G N n) a b c d H
def aiD(G:ai)(N:Nat)(b:aa->aa->aa->aa->af->O):∀C H,aD P G N (aq (aq (ae (aq (ae (ae (aG Tryz.f181))))))) (λC H=>b (C 0) (C 1) (C 5) (C 6) H) [(0,(λC H=>sH G N (C 0) (C 1) H))] (ax Tryz.f181) C H=Ge G N b (C 0) (C 1) (C 5) (C 6) H:=by
 refine aI (aj _) λC H=> ?_
 delta Ge;generalize sH G N=a;revert a;refine id ?_;intro a;kernel_rfl
def Ao(G:ai)(N:Nat)(b c:aa)(H:af):O:=aK H (D (.ag (H).next 0 5 1 (D 5),.row U 1 [[X [60,61]],[X [61,61]],[X [33,61]],[X [38,38]],[X [124,124]]])) λd a=>sK G N N b c d (I J 0) a
def aiE(G:ai)(N:Nat)(b:aa)(c:aa)(H:af):aB Tryz.f181 G N (aO [b,c]) H=Ao G N b c H:=by
 refine aT (A:=aB Tryz.f181 G N) ((ar j ((ar j ((ar j (aiF G N) ((ar j ((aX j ((a_ (k:=λm C H=>sK G N m (C 0) (C 1) (C 5) (C 6) H) j (λC H=>j) (λm=>aiD G N (sK G N m)))))) (aj _))))) (aj _))) (aj _))) ?_;delta Ao;generalize sK G N N=a;revert a;refine id ?_;intro a;kernel_rfl
def Ap(G:ai)(a f:aa)(H:af):O:=aw H (G 63 [a,f] H) λb g=>au b V g (aV a) λv h=>au b V h (aE (aL v)) λw i=>au b V i (aE (ak P 104 w 2)) λl e=>au b V e (qr (ah P e 3 l)) λm j=>au b V j (aE (al P .geq 3 V m (I J 50))) λn d=>ad (aU b (D n) (D (Z U))) λo=>ay (D o) (aw d (G 64 [a,I J 4] d) λx c=>D (.tuple [],c)) (aw d (G 67 [a,f] d) λy c=>ad (aL a) λp=>ad (ak P 104 p 2) λq=>ad (ah P c 3 q) λr=>ad (al P .add 3 V r (I J 1)) λs=>ad (aL a) λt=>ad (ak P 104 t 2) λu=>aF c (aC P c 3 u s) λk=>D (.tuple [],k))
def aiH(G:ai)(N:Nat)(a:aa)(b:aa)(H:af):aB Tryz.f182 G N (aO [a,b]) H=Ap G a b H:=by
 refine aT (A:=aB Tryz.f182 G N) (aj _) ?_;delta Ap;kernel_rfl
def hC(G:ai)(b d:aa)(H:af):O:=ad (ah P H 207 d) λc=>aF H (aC P H 207 b c) λa=>ad (ah P a 207 b) λr=>D (r,a)
def aiJ(G:ai)(N:Nat):∀C H,aD P G N (ae (ae (ae (ae (aG Tryz.f183))))) (ax Tryz.f183) [] (ax Tryz.f183) C H=hC G (C 2) (C 4) H:=by
 refine aI (aj _) λC H=> ?_
 delta hC;kernel_rfl
def sM(G:ai)(b c d:aa)(H:af):O:=aw H (G 67 [b,X [59]] H) λe a=>hC G c d a
def aiL(G:ai)(N:Nat):∀C H,aD P G N (ae (ae (ae (ae (ae (ae (aq (ae (aq (aq (ae (ae (ae (aG Tryz.f183)))))))))))))) (λC H=>hC G (C 2) (C 4) H) [(0,(λC H=>hC G (C 2) (C 4) H))] (ax Tryz.f183) C H=sM G (C 0) (C 2) (C 4) H:=by
 refine aI (aj _) λC H=> ?_
 delta sM;generalize hC G=a;revert a;refine id ?_;intro a;kernel_rfl
def sN(G:ai)(b c d:aa)(H:af):O:=aw H (G 67 [b,X [59]] H) λe a=>hC G c d a
def aiM(G:ai)(N:Nat):∀C H,aD P G N (ae (ae (ae (aq (ae (ae (ae (ae (ae (ae (ae (aq (aq (ae (ae (ae (aG Tryz.f183))))))))))))))))) (λC H=>hC G (C 2) (C 4) H) [(0,(λC H=>hC G (C 2) (C 4) H))] (ax Tryz.f183) C H=sN G (C 0) (C 2) (C 4) H:=by
 refine aI (aj _) λC H=> ?_
 delta sN;generalize hC G=a;revert a;refine id ?_;intro a;kernel_rfl
def sL(G:ai)(a k:aa)(av b W:aa)(H:af):O:=ay (D W) (ad (aL a) λab=>ad (ak P 104 ab 1) λae=>ad (ah P H 3 ae) λaj=>ad (al P .add 3 V aj (I J 1)) λam=>ad (aL a) λan=>ad (ak P 104 an 1) λap=>aF H (aC P H 3 ap am) λl=>ad (ak P 207 b 0) λaq=>aF l (aC P l 3 aq (I J 1)) λj=>aw j (G 118 [a] j) λar g=>ad (ak P 207 b 1) λau=>aF g (aC P g 9 au ar) λc=>aw c (G 67 [a,X [58]] c) λbo e=>aw e (G 119 [a] e) λax d=>ad (ak P 207 b 2) λaz=>aF d (aC P d 114 az ax) λf=>ad (ak P 106 av 1) λaA=>ad (ah P f 9 aA) λaB=>ad (al P .eql 9 V aB (X [108,101,116])) λaD=>ay (D aD) (ad (ak P 207 b 0) λaE=>aF f (aC P f 3 aE (I J 2)) λh=>aw h (G 67 [a,X [61]] h) λbp i=>aw i (G 222 [a,I J 0] i) λaG m=>aK m (bd P (m).next 205 1 [(0,aG)]) λaH n=>ad (ak P 207 b 3) λaI=>aF n (aC P n 205 aI aH) λo=>sM G a k b o) (sM G a k b f)) (aw H (G 63 [a,X [105,102]] H) λaJ l=>ay (D aJ) (ad (aL a) λaM=>ad (ak P 104 aM 1) λaN=>ad (ah P l 3 aN) λaO=>ad (al P .add 3 V aO (I J 1)) λaP=>ad (aL a) λaQ=>ad (ak P 104 aQ 1) λaR=>aF l (aC P l 3 aR aP) λj=>ad (ak P 207 b 0) λaS=>aF j (aC P j 3 aS (I J 5)) λg=>aw g (G 222 [a,I J 0] g) λaT c=>aK c (bd P (c).next 205 1 [(0,aT)]) λaU e=>ad (ak P 207 b 3) λaV=>aF e (aC P e 205 aV aU) λd=>aw d (G 120 [a] d) λaW f=>ad (ak P 207 b 4) λaX=>aF f (aC P f 119 aX aW) λh=>aw h (G 63 [a,X [101,108,115,101]] h) λaY i=>ay (D aY) (ad (aL a) λaZ=>ad (ak P 104 aZ 1) λa0=>ad (ah P i 3 a0) λa1=>ad (al P .add 3 V a1 (I J 1)) λa2=>ad (aL a) λa3=>ad (ak P 104 a3 1) λa4=>aF i (aC P i 3 a4 a2) λm=>aw m (G 120 [a] m) λa5 n=>ad (ak P 207 b 5) λa6=>aF n (aC P n 119 a6 a5) λo=>hC G k b o) (hC G k b i)) (aw l (G 63 [a,X [119,104,105,108,101]] l) λa7 j=>ay (D a7) (ad (aL a) λa8=>ad (ak P 104 a8 1) λa9=>ad (ah P j 3 a9) λa_=>ad (al P .add 3 V a_ (I J 1)) λba=>ad (aL a) λbb=>ad (ak P 104 bb 1) λbc=>aF j (aC P j 3 bc ba) λg=>ad (ak P 207 b 0) λbe=>aF g (aC P g 3 be (I J 6)) λc=>aw c (G 222 [a,I J 0] c) λbf e=>aK e (bd P (e).next 205 1 [(0,bf)]) λbg d=>ad (ak P 207 b 3) λbh=>aF d (aC P d 205 bh bg) λf=>aw f (G 120 [a] f) λbi h=>ad (ak P 207 b 4) λbj=>aF h (aC P h 119 bj bi) λi=>hC G k b i) (aw j (G 63 [a,X [114,101,116,117,114,110]] j) λbk g=>ay (D bk) (ad (aL a) λbl=>ad (ak P 104 bl 1) λbm=>ad (ah P g 3 bm) λp=>ad (al P .add 3 V p (I J 1)) λq=>ad (aL a) λs=>ad (ak P 104 s 1) λt=>aF g (aC P g 3 t q) λc=>ad (ak P 207 b 0) λu=>aF c (aC P c 3 u (I J 7)) λe=>aw e (G 63 [a,X [59]] e) λv d=>ad (bu .not v) λw=>ay (D w) (aw d (G 222 [a,I J 0] d) λx f=>aK f (bd P (f).next 205 1 [(0,x)]) λz h=>ad (ak P 207 b 3) λA=>aF h (aC P h 205 A z) λi=>sN G a k b i) (sN G a k b d)) (aw g (G 63 [a,X [112,114,105,110,116]] g) λB c=>ay (D B) (ad (aL a) λC=>ad (ak P 104 C 1) λE=>ad (ah P c 3 E) λK=>ad (al P .add 3 V K (I J 1)) λL=>ad (aL a) λM=>ad (ak P 104 M 1) λN=>aF c (aC P c 3 N L) λe=>ad (ak P 207 b 0) λQ=>aF e (aC P e 3 Q (I J 8)) λd=>aw d (G 222 [a,I J 0] d) λR f=>aK f (bd P (f).next 205 1 [(0,R)]) λS h=>ad (ak P 207 b 3) λT=>aF h (aC P h 205 T S) λi=>aw i (G 67 [a,X [59]] i) λbn m=>hC G k b m) (ad (ah P c 207 b) λy=>aw c (G 223 [a,y] c) λF e=>aF e (aC P e 207 k F) λd=>ad (ah P d 207 k) λr=>D (r,d))))))
def aiK(G:ai)(N:Nat):∀C H,aD P G N (ae (aq (aq (ae (ae (ae (aG Tryz.f183))))))) (λC H=>hC G (C 2) (C 4) H) [(0,(λC H=>hC G (C 2) (C 4) H))] (ax Tryz.f183) C H=sL G (C 0) (C 2) (C 3) (C 4) (C 13) H:=by
 refine aI ((bz j ((ar j ((ar j ((ar j ((ar j ((ar j ((ar j (aiL G N) (aj _))) (aj _))) (aj _))) (aj _))) (aj _))) (aj _))) ((ar j ((bz j (aj _) ((ar j ((bz j (aj _) ((ar j ((bz j ((ar j ((ar j ((ar j (aiM G N) (aj _))) (aj _))) (aj _))) (aj _))) (aj _))))) (aj _))))) (aj _))))) λC H=> ?_
 delta sL;generalize sN G=a;generalize hC G=b;generalize sM G=c;revert a b c;refine id ?_;intro a b c;kernel_rfl
def Aq(G:ai)(a:aa)(H:af):O:=ba H [I J 0,X [],X [],I J 0,aa.ao,aa.ao,aa.ao,I J 0,I J 0] λk e=>aw e (G 62 [a] e) λo l=>ba l [I J 0,X [],I J 0,I J 0] λb f=>aF f (aC P f 106 b o) λg=>ad (ak P 106 b 3) λp=>ad (ah P g 3 p) λq=>ad (bo P 207 [(6,q)]) λr=>ba g [I J 0,X [],X [],I J 0,aa.ao,aa.ao,aa.ao,I J 0,I J 0] λd h=>aF h (aC P h 207 d r) λi=>aw i (G 63 [a,X [118,97,114]] i) λj c=>ay (D j) (sL G a k b d j c) (aw c (G 63 [a,X [108,101,116]] c) λn m=>sL G a k b d n m)
def aiI(G:ai)(N:Nat)(b:aa)(H:af):aB Tryz.f183 G N (aO [b]) H=Aq G b H:=by
 refine aT (A:=aB Tryz.f183 G N) ((ar j ((ar j ((ar j ((ar j (aiJ G N) ((aX j ((ar j (aiK G N) (aj _))))))) (aj _))) (aj _))) (aj _))) ?_;delta Aq;generalize sL G=a;revert a;refine id ?_;intro a;kernel_rfl
def Ar(G:ai)(b d:aa)(H:af):O:=aw H (G 67 [b,d] H) λk a=>ad (aL b) λi=>ad (ak P 104 i 2) λj=>ad (ah P a 3 j) λe=>ad (al P .sub 3 V e (I J 1)) λf=>ad (aL b) λg=>ad (ak P 104 g 2) λh=>aF a (aC P a 3 h f) λc=>D (.tuple [],c)
def aiN(G:ai)(N:Nat)(a:aa)(b:aa)(H:af):aB Tryz.f184 G N (aO [a,b]) H=Ar G a b H:=by
 refine aT (A:=aB Tryz.f184 G N) (aj _) ?_;delta Ar;kernel_rfl
def A1(G:ai)(H:af):O:=aK H (D (.ag (H).next 0 18 1 (D 18),.row U 1 [[X [114,101,99,111,114,100]],[X [103,108,111,98,97,108]],[X [102,117,110,99]],[X [118,97,114]],[X [108,101,116]],[X [105,102]],[X [101,108,115,101]],[X [119,104,105,108,101]],[X [114,101,116,117,114,110]],[X [112,114,105,110,116]],[X [110,117,108,108]],[X [110,101,119]],[X [108,101,110]],[X [114,101,97,100]],[X [116,114,117,101]],[X [102,97,108,115,101]],[X [105,110,116]],[X [98,111,111,108]]])) λb a=>D (b,a)
def akc(G:ai)(N:Nat)(H:af):aB Tryz.f221 G N (aO []) H=A1 G H:=by
 refine aT (A:=aB Tryz.f221 G N) (aj _) ?_;delta A1;kernel_rfl
def tA(G:ai)(N:Nat)(b d:aa)(H:af):O:=ad (ah P H 267 d) λc=>aF H (aC P H 267 b c) λa=>ad (ah P a 267 b) λr=>D (r,a)
def akf(G:ai)(N:Nat):∀C H,aD P G N (ae (ae (ae (ae (aG Tryz.f222))))) (ax Tryz.f222) [] (ax Tryz.f222) C H=tA G N (C 4) (C 5) H:=by
 refine aI (aj _) λC H=> ?_
 delta tA;kernel_rfl
def Gx(G:ai)(N:Nat)(x:aa->aa->aa->aa->af->O)(c g:aa)(w e:aa)(H:af):O:=aw H (G 61 [c] H) λd y=>au d V y (aV g) λF B=>au d V B (aV c) λK l=>au d V l (λq=>bq l (G 62 [K] l) q) λL m=>au d V m (λq=>bq m (G 261 [F,L] m) q) λM C=>au d V C (aE (al P .neq 3 V M (I J 0))) λQ n=>ad (aU d (D Q) (D (Z U))) λR=>ay (D R) (aw n (G 62 [c] n) λS E=>ba E [I J 0,X [],I J 0,I J 0] λj u=>aF u (aC P u 106 j S) λo=>ad (aL c) λT=>ad (ak P 104 T 1) λW=>ad (ah P o 3 W) λab=>ad (al P .add 3 V ab (I J 1)) λae=>ad (aL c) λaj=>ad (ak P 104 aj 1) λam=>aF o (aC P o 3 am ae) λs=>ad (al P .add 3 V g (I J 1)) λan=>aw s (G 222 [c,an] s) λap z=>ba z [I J 0,I J 0,X [],X [],I J 0,aa.ao,I J 0,I J 0,I J 0,I J 0,I J 0] λk t=>aF t (aC P t 267 k ap) λa=>ad (ah P a 106 j) λv=>aw a (G 261 [g,v] a) λaq b=>ad (ah P b 267 e) λp=>ad (ah P b 267 k) λr=>aK b (bd P (b).next 205 2 [(0,p),(1,r)]) λar f=>ad (ak P 106 j 3) λh=>ad (ah P f 3 h) λi=>ad (bo P 267 [(0,aq),(4,ar),(5,i)]) λav=>aF f (aC P f 267 e av) λA=>bif ((aJ (ah P a 106 j) v&&V)&&((aJ (ah P a 267 e) p&&(aJ (ah P b 267 e) p&&V))&&((aJ (ah P a 267 k) r&&(aJ (ah P b 267 k) r&&V))&&((aJ (ah P a 3 h) i&&(aJ (ah P b 3 h) i&&(aJ (ah P f 3 h) i&&V)))&&V))))then(x c g w e A)else Y) (tA G N w e n)
def tB(G:ai)(N:Nat):Nat->aa->aa->aa->aa->af->O
 |0,_,_,_,_,_=>Y
 |n+1,a,b,c,d,H=>Gx G N (tB G N n) a b c d H
def akd(G:ai)(N:Nat)(b:aa->aa->aa->aa->af->O):∀C H,aD P G N (aq (aq (aq (ae (ae (ae (aG Tryz.f222))))))) (λC H=>b (C 0) (C 1) (C 4) (C 5) H) [(0,(λC H=>tA G N (C 4) (C 5) H))] (ax Tryz.f222) C H=Gx G N b (C 0) (C 1) (C 4) (C 5) H:=by
 refine aI (aj _) λC H=> ?_
 delta Gx;generalize tA G N=a;revert a;refine id ?_;intro a;kernel_rfl
def A2(G:ai)(N:Nat)(d e:aa)(H:af):O:=ba H [I J 0,I J 0,X [],X [],I J 0,aa.ao,I J 0,I J 0,I J 0,I J 0,I J 0] λf b=>ad (al P .eql 3 V e (I J 5)) λl=>ay (D l) (aw b (G 260 [d] b) λi c=>aF c (aC P c 267 f i) λa=>ad (ah P a 267 f) λr=>D (r,a)) (ad (al P .add 3 V e (I J 1)) λj=>aw b (G 222 [d,j] b) λk c=>ba c [I J 0,I J 0,X [],X [],I J 0,aa.ao,I J 0,I J 0,I J 0,I J 0,I J 0] λg a=>aF a (aC P a 267 g k) λh=>tB G N N d e f g h)
def ake(G:ai)(N:Nat)(b:aa)(c:aa)(H:af):aB Tryz.f222 G N (aO [b,c]) H=A2 G N b c H:=by
 refine aT (A:=aB Tryz.f222 G N) ((ar j ((ar j ((ar j ((ar j (akf G N) ((aX j ((a_ (k:=λm C H=>tB G N m (C 0) (C 1) (C 4) (C 5) H) j (λC H=>j) (λm=>akd G N (tB G N m)))))))) (aj _))) (aj _))) (aj _))) ?_;delta A2;generalize tB G N N=a;revert a;refine id ?_;intro a;kernel_rfl
def tD(G:ai)(h b:aa)(g i:aa)(H:af):O:=aw H (G 67 [h,X [61]] H) λN k=>aw k (G 222 [h,I J 0] k) λp o=>ba o [I J 0,I J 0,X [],X [],I J 0,aa.ao,I J 0,I J 0,I J 0,I J 0,I J 0] λj m=>aF m (aC P m 267 j p) λn=>aw n (G 67 [h,X [59]] n) λQ f=>ad (ak P 267 i 0) λq=>ad (ah P f 3 q) λs=>ad (al P .eql 3 V s (I J 4)) λt=>ay (D t) (ad (ak P 207 b 0) λu=>aF f (aC P f 3 u (I J 3)) λa=>ad (ak P 267 i 2) λv=>ad (ah P a 9 v) λw=>ad (ak P 207 b 1) λx=>aF a (aC P a 9 x w) λc=>ad (ah P c 267 j) λy=>aK c (bd P (c).next 205 1 [(0,y)]) λz d=>ad (ak P 207 b 3) λA=>aF d (aC P d 205 A z) λe=>ad (ah P e 207 b) λB=>aF e (aC P e 207 g B) λl=>ad (ah P l 207 g) λr=>D (r,l)) (ad (ak P 207 b 0) λC=>aF f (aC P f 3 C (I J 4)) λa=>ad (ah P a 267 i) λE=>ad (ah P a 267 j) λF=>aK a (bd P (a).next 205 2 [(0,E),(1,F)]) λK c=>ad (ak P 207 b 3) λL=>aF c (aC P c 205 L K) λd=>ad (ah P d 207 b) λM=>aF d (aC P d 207 g M) λe=>ad (ah P e 207 g) λr=>D (r,e))
def aki(G:ai)(N:Nat):∀C H,aD P G N (ae (ae (ae (ae (aG Tryz.f223))))) (ax Tryz.f223) [] (ax Tryz.f223) C H=tD G (C 0) (C 3) (C 4) (C 5) H:=by
 refine aI (aj _) λC H=> ?_
 delta tD;kernel_rfl
def tC(G:ai)(e h:aa)(i a:aa)(H:af):O:=ad (ak P 267 a 0) λn=>ad (ah P H 3 n) λo=>ad (al P .neq 3 V o (I J 4)) λb=>au b V H (aE (ak P 267 a 0)) λp f=>au b V f (qr (ah P f 3 p)) λq j=>au b V j (aE (al P .neq 3 V q (I J 5))) λr k=>ad (aU b (D r) (D (Z U))) λc=>au c V k (aE (ak P 267 a 0)) λs g=>au c V g (qr (ah P g 3 s)) λt l=>au c V l (aE (al P .neq 3 V t (I J 6))) λu d=>ad (aU c (D u) (D (Z U))) λv=>ay (D v) (aw d (G 64 [e,I J 2] d) λw m=>tD G e h i a m) (tD G e h i a d)
def akh(G:ai)(N:Nat):∀C H,aD P G N (ae (ae (ae (aG Tryz.f223)))) (ax Tryz.f223) [] (ax Tryz.f223) C H=tC G (C 0) (C 3) (C 4) (C 5) H:=by
 refine aI ((ar j (aki G N) (aj _))) λC H=> ?_
 delta tC;generalize tD G=a;revert a;refine id ?_;intro a;kernel_rfl
def tE(G:ai)(d f c:aa)(H:af):O:=aw H (G 67 [d,X [59]] H) λg a=>ad (ah P a 207 f) λe=>aF a (aC P a 207 c e) λb=>ad (ah P b 207 c) λr=>D (r,b)
def akj(G:ai)(N:Nat):∀C H,aD P G N (ae (ae (ae (aq (ae (aq (ae (ae (aG Tryz.f223))))))))) (λC H=>tC G (C 0) (C 3) (C 4) (C 5) H) [] (ax Tryz.f223) C H=tE G (C 0) (C 3) (C 4) H:=by
 refine aI (aj _) λC H=> ?_
 delta tE;kernel_rfl
def A3(G:ai)(a t:aa)(H:af):O:=aK H (bl (H).next t) λb o=>ba o [I J 0,X [],X [],I J 0,aa.ao,aa.ao,aa.ao,I J 0,I J 0] λh j=>aw j (G 222 [a,I J 0] j) λF s=>ba s [I J 0,I J 0,X [],X [],I J 0,aa.ao,I J 0,I J 0,I J 0,I J 0,I J 0] λd k=>aF k (aC P k 267 d F) λl=>aw l (G 63 [a,X [61]] l) λu f=>ad (bu .not u) λv=>ay (D v) (ad (ak P 207 b 0) λw=>aF f (aC P f 3 w (I J 9)) λg=>ad (ah P g 267 d) λx=>aK g (bd P (g).next 205 1 [(0,x)]) λy m=>ad (ak P 207 b 3) λz=>aF m (aC P m 205 z y) λn=>aw n (G 63 [a,X [59]] n) λc p=>au c V p (aE (ak P 267 d 0)) λA i=>au c V i (qr (ah P i 3 A)) λB q=>au c V q (aE (al P .neq 3 V B (I J 7))) λC e=>ad (aU c (D C) (D (Z U))) λE=>ay (D E) (aw e (G 64 [a,I J 2] e) λK r=>tE G a b h r) (tE G a b h e)) (tC G a b h d f)
def akg(G:ai)(N:Nat)(c:aa)(d:aa)(H:af):aB Tryz.f223 G N (aO [c,d]) H=A3 G c d H:=by
 refine aT (A:=aB Tryz.f223 G N) ((ar j ((ar j ((ar j (akh G N) ((ar j ((bz j ((ar j ((ar j ((ar j (akj G N) (aj _))) (aj _))) (aj _))) (aj _))) (aj _))))) (aj _))) (aj _))) ?_;delta A3;generalize tC G=a;generalize tE G=b;revert a b;refine id ?_;intro a b;kernel_rfl
def u1(G:ai)(a h:aa)(i A:aa)(H:af):O:=ad (ak P 106 i 1) λl=>ad (ah P H 9 l) λm=>aw H (G 182 [a,m] H) λB e=>aw e (G 222 [a,I J 5] e) λn k=>ba k [I J 0,I J 0,X [],X [],I J 0,aa.ao,I J 0,I J 0,I J 0,I J 0,I J 0] λj f=>aF f (aC P f 267 j n) λb=>ad (aL a) λo=>ad (ak P 104 o 2) λp=>ad (ah P b 3 p) λq=>ad (al P .sub 3 V q (I J 1)) λs=>ad (aL a) λt=>ad (ak P 104 t 2) λu=>aF b (aC P b 3 u s) λc=>ad (ah P c 267 j) λv=>aK c (bd P (c).next 205 1 [(0,v)]) λw d=>ad (ak P 106 i 3) λx=>ad (ah P d 3 x) λy=>ad (bo P 267 [(0,A),(4,w),(5,y)]) λz=>aF d (aC P d 267 h z) λg=>ad (ah P g 267 h) λr=>D (r,g)
def aml(G:ai)(N:Nat):∀C H,aD P G N (ae (ae (ae (ae (aG Tryz.f260))))) (ax Tryz.f260) [] (ax Tryz.f260) C H=u1 G (C 0) (C 2) (C 3) (C 4) H:=by
 refine aI (aj _) λC H=> ?_
 delta u1;kernel_rfl
def BE(G:ai)(a:aa)(H:af):O:=ba H [I J 0,I J 0,X [],X [],I J 0,aa.ao,I J 0,I J 0,I J 0,I J 0,I J 0] λb f=>aw f (G 62 [a] f) λq l=>ba l [I J 0,X [],I J 0,I J 0] λe g=>aF g (aC P g 106 e q) λh=>aw h (G 63 [a,X [45]] h) λo c=>ay (D o) (u1 G a b e (I J 12) c) (aw c (G 63 [a,X [33]] c) λp d=>ay (D p) (u1 G a b e (I J 13) d) (aw d (G 298 [a] d) λm i=>aw i (G 297 [a,m] i) λn j=>aF j (aC P j 267 b n) λk=>ad (ah P k 267 b) λr=>D (r,k)))
def amk(G:ai)(N:Nat)(b:aa)(H:af):aB Tryz.f260 G N (aO [b]) H=BE G b H:=by
 refine aT (A:=aB Tryz.f260 G N) ((ar j ((ar j ((ar j ((ar j (aml G N) (aj _))) (aj _))) (aj _))) (aj _))) ?_;delta BE;generalize u1 G=a;revert a;refine id ?_;intro a;kernel_rfl
def u2(G:ai)(N:Nat)(H:af):O:=some ((I J 0),H)
def amo(G:ai)(N:Nat):∀C H,aD P G N (ae (ae (ae (ae (ae (aG Tryz.f261)))))) (ax Tryz.f261) [] (ax Tryz.f261) C H=u2 G N H:=by
 refine aI (aj _) λC H=> ?_
 delta u2;kernel_rfl
def G_(G:ai)(N:Nat)(f:aa->aa->aa->aa->aa->af->O)(a d:aa)(c e b:aa)(H:af):O:=ad (aH P 347 c a) λg=>ad (ah P H 77 g) λh=>a1 P .len [77] [h] H λi=>ad (al P .lss 3 U b i) λj=>ay (D j) (ad (aH P 347 c a) λl=>ad (ah P H 77 l) λm=>ad (aH P 77 m b) λn=>ad (ah P H 9 n) λo=>ad (ak P 106 d 1) λp=>ad (ah P H 9 p) λq=>ad (al P .eql 9 U o q) λr=>ay (D r) (ad (aH P 30 e a) λs=>ad (ah P H 35 s) λt=>ad (aH P 35 t b) λu=>ad (ah P H 3 u) λv=>D (v,H)) (ad (al P .add 3 V b (I J 1)) λk=>f a d c e k H)) (u2 G N H)
def u3(G:ai)(N:Nat):Nat->aa->aa->aa->aa->aa->af->O
 |0,_,_,_,_,_,_=>Y
 |n+1,a,b,c,d,e,H=>G_ G N (u3 G N n) a b c d e H
def amm(G:ai)(N:Nat)(b:aa->aa->aa->aa->aa->af->O):∀C H,aD P G N (aq (aq (ae (aq (ae (ae (ae (ae (aG Tryz.f261))))))))) (λC H=>b (C 0) (C 3) (C 5) (C 6) (C 7) H) [(0,(λC H=>u2 G N H))] (ax Tryz.f261) C H=G_ G N b (C 0) (C 3) (C 5) (C 6) (C 7) H:=by
 refine aI (aj _) λC H=> ?_
 delta G_;generalize u2 G N=a;revert a;refine id ?_;intro a;kernel_rfl
def BF(G:ai)(N:Nat)(o p:aa)(H:af):O:=aK H (bl (H).next p) λm a=>ad (ak P 106 m 0) λE=>ad (ah P a 3 E) λF=>ad (al P .neq 3 V F (I J 4)) λq=>ay (D q) (D ((I J 0),a)) (aK a (D (.ag (a).next 0 1 1 (D 1),.row U 1 [[X [124,124]]])) λr e=>aK e (D (.ag (e).next 0 1 1 (D 1),.row U 1 [[X [38,38]]])) λs f=>aK f (D (.ag (f).next 0 4 1 (D 4),.row U 1 [[X [60]],[X [60,61]],[X [61,61]],[X [33,61]]])) λt g=>aK g (D (.ag (g).next 0 2 1 (D 2),.row U 1 [[X [43]],[X [45]]])) λu h=>aK h (D (.ag (h).next 0 3 1 (D 3),.row U 1 [[X [42]],[X [47]],[X [37]]])) λv i=>aK i (bd P (i).next 347 5 [(0,r),(1,s),(2,t),(3,u),(4,v)]) λw j=>aK j (D (.ag (j).next 0 1 1 (D 1),.row U 1 [[I J 24]])) λx k=>aK k (D (.ag (k).next 0 1 1 (D 1),.row U 1 [[I J 23]])) λy l=>aK l (D (.ag (l).next 0 4 1 (D 4),.row U 1 [[I J 19],[I J 20],[I J 21],[I J 22]])) λz b=>aK b (D (.ag (b).next 0 2 1 (D 2),.row U 1 [[I J 14],[I J 15]])) λA c=>aK c (D (.ag (c).next 0 3 1 (D 3),.row U 1 [[I J 16],[I J 17],[I J 18]])) λB d=>aK d (bd P (d).next 30 5 [(0,x),(1,y),(2,z),(3,A),(4,B)]) λC n=>u3 G N N o m w C (I J 0) n)
def amn(G:ai)(N:Nat)(b:aa)(c:aa)(H:af):aB Tryz.f261 G N (aO [b,c]) H=BF G N b c H:=by
 refine aT (A:=aB Tryz.f261 G N) ((ar j ((ar j ((ar j ((ar j ((ar j (amo G N) ((ar j ((aX j ((a_ (k:=λm C H=>u3 G N m (C 0) (C 3) (C 5) (C 6) (C 7) H) j (λC H=>j) (λm=>amm G N (u3 G N m)))))) (aj _))))) (aj _))) (aj _))) (aj _))) (aj _))) ?_;delta BF;generalize u3 G N N=a;revert a;refine id ?_;intro a;kernel_rfl
def vC(G:ai)(N:Nat)(c b:aa)(H:af):O:=ad (ah P H 267 c) λd=>aF H (aC P H 267 b d) λa=>ad (ah P a 267 b) λr=>D (r,a)
def anR(G:ai)(N:Nat):∀C H,aD P G N (ae (ae (aG Tryz.f297))) (ax Tryz.f297) [] (ax Tryz.f297) C H=vC G N (C 3) (C 4) H:=by
 refine aI (aj _) λC H=> ?_
 delta vC;kernel_rfl
def Hp(G:ai)(N:Nat)(s:aa->aa->aa->af->O)(a b o:aa)(H:af):O:=aw H (G 63 [a,X [46]] H) λr w=>au r U w (aV a) λz l=>au r U l (λq=>bq l (G 63 [z,X [91]] l) q) λA m=>ad (aU r (D (Z V)) (D A)) λB=>ay (D B) (aw m (G 62 [a] m) λC y=>ba y [I J 0,X [],I J 0,I J 0] λp t=>aF t (aC P t 106 p C) λu=>aw u (G 63 [a,X [46]] u) λE f=>ay (D E) (ad (aL a) λF=>ad (ak P 104 F 1) λK=>ad (ah P f 3 K) λL=>ad (al P .add 3 V L (I J 1)) λM=>ad (aL a) λQ=>ad (ak P 104 Q 1) λR=>aF f (aC P f 3 R M) λd=>aw d (G 118 [a] d) λS e=>ad (ah P e 267 b) λn=>aK e (bd P (e).next 205 1 [(0,n)]) λT c=>ad (ak P 106 p 3) λi=>ad (ah P c 3 i) λj=>ad (bo P 267 [(0,(I J 5)),(2,S),(4,T),(5,j)]) λW=>aF c (aC P c 267 b W) λg=>bif ((aJ (ah P d 267 b) n&&(aJ (ah P e 267 b) n&&V))&&((aJ (ah P d 3 i) j&&(aJ (ah P e 3 i) j&&(aJ (ah P c 3 i) j&&V)))&&V))then(s a b o g)else Y) (aw f (G 182 [a,X [91]] f) λar d=>aw d (G 222 [a,I J 0] d) λab e=>ba e [I J 0,I J 0,X [],X [],I J 0,aa.ao,I J 0,I J 0,I J 0,I J 0,I J 0] λv c=>aF c (aC P c 267 v ab) λg=>aw g (G 184 [a,X [93]] g) λav h=>ad (ah P h 267 b) λae=>ad (ah P h 267 v) λaj=>aK h (bd P (h).next 205 2 [(0,ae),(1,aj)]) λam k=>ad (ak P 106 p 3) λan=>ad (ah P k 3 an) λap=>ad (bo P 267 [(0,(I J 6)),(4,am),(5,ap)]) λaq=>aF k (aC P k 267 b aq) λx=>s a b o x)) (vC G N b o m)
def vD(G:ai)(N:Nat):Nat->aa->aa->aa->af->O
 |0,_,_,_,_=>Y
 |n+1,a,b,c,H=>Hp G N (vD G N n) a b c H
def anP(G:ai)(N:Nat)(b:aa->aa->aa->af->O):∀C H,aD P G N (aq (aq (aq (ae (aG Tryz.f297))))) (λC H=>b (C 0) (C 3) (C 4) H) [(0,(λC H=>vC G N (C 3) (C 4) H))] (ax Tryz.f297) C H=Hp G N b (C 0) (C 3) (C 4) H:=by
 refine aI (aj _) λC H=> ?_
 delta Hp;generalize vC G N=a;revert a;refine id ?_;intro a;kernel_rfl
def Ce(G:ai)(N:Nat)(c d:aa)(H:af):O:=aK H (bl (H).next d) λe a=>ba a [I J 0,I J 0,X [],X [],I J 0,aa.ao,I J 0,I J 0,I J 0,I J 0,I J 0] λf b=>vD G N N c e f b
def anQ(G:ai)(N:Nat)(b:aa)(c:aa)(H:af):aB Tryz.f297 G N (aO [b,c]) H=Ce G N b c H:=by
 refine aT (A:=aB Tryz.f297 G N) ((ar j ((ar j (anR G N) ((aX j ((a_ (k:=λm C H=>vD G N m (C 0) (C 3) (C 4) H) j (λC H=>j) (λm=>anP G N (vD G N m)))))))) (aj _))) ?_;delta Ce;generalize vD G N N=a;revert a;refine id ?_;intro a;kernel_rfl
def l9(G:ai)(d c j:aa)(H:af):O:=aw H (G 118 [d] H) λi g=>aw g (G 63 [d,X [40]] g) λk b=>ad (bu .not k) λl=>ay (D l) (ad (ak P 106 j 3) λm=>ad (ah P b 3 m) λn=>ad (bo P 267 [(0,(I J 4)),(2,i),(5,n)]) λo=>aF b (aC P b 267 c o) λa=>ad (ah P a 267 c) λr=>D (r,a)) (aw b (G 324 [d] b) λp a=>ad (ak P 106 j 3) λe=>ad (ah P a 3 e) λf=>ad (bo P 267 [(0,(I J 7)),(2,i),(4,p),(5,f)]) λq=>aF a (aC P a 267 c q) λh=>bif ((aJ (ah P b 3 e) f&&(aJ (ah P a 3 e) f&&V))&&V)then(ad (ah P h 267 c) λr=>D (r,h))else Y)
def anT(G:ai)(N:Nat):∀C H,aD P G N (ae (ae (ae (aG Tryz.f298)))) (ax Tryz.f298) [] (ax Tryz.f298) C H=l9 G (C 0) (C 2) (C 3) H:=by
 refine aI (aj _) λC H=> ?_
 delta l9;kernel_rfl
def vF(G:ai)(b c d:aa)(H:af):O:=ad (ak P 106 c 3) λe=>ad (ah P H 3 e) λf=>ad (bo P 267 [(0,(I J 2)),(1,d),(5,f)]) λg=>aF H (aC P H 267 b g) λa=>ad (ah P a 267 b) λr=>D (r,a)
def anV(G:ai)(N:Nat):∀C H,aD P G N (ae (ae (ae (aq (ae (ae (ae (aq (aq (ae (ae (aG Tryz.f298)))))))))))) (λC H=>l9 G (C 0) (C 2) (C 3) H) [(0,(λC H=>l9 G (C 0) (C 2) (C 3) H))] (ax Tryz.f298) C H=vF G (C 2) (C 3) (C 4) H:=by
 refine aI (aj _) λC H=> ?_
 delta vF;kernel_rfl
def vE(G:ai)(a e:aa)(j x:aa)(H:af):O:=ay (D x) (ad (aL a) λy=>ad (ak P 104 y 1) λz=>ad (ah P H 3 z) λA=>ad (al P .add 3 V A (I J 1)) λB=>ad (aL a) λC=>ad (ak P 104 C 1) λE=>aF H (aC P H 3 E B) λg=>ad (ak P 106 j 1) λF=>ad (ah P g 9 F) λK=>ad (al P .eql 9 V K (X [116,114,117,101])) λL=>ay (D L) (vF G e j (I J 1) g) (vF G e j (I J 0) g)) (aw H (G 63 [a,X [110,117,108,108]] H) λM g=>ay (D M) (ad (aL a) λN=>ad (ak P 104 N 1) λQ=>ad (ah P g 3 Q) λR=>ad (al P .add 3 V R (I J 1)) λS=>ad (aL a) λT=>ad (ak P 104 T 1) λW=>aF g (aC P g 3 W S) λh=>aw h (G 119 [a] h) λab c=>ad (ak P 106 j 3) λm=>ad (ah P c 3 m) λn=>ad (bo P 267 [(0,(I J 3)),(3,ab),(5,n)]) λae=>aF c (aC P c 267 e ae) λb=>bif ((aJ (ah P h 3 m) n&&(aJ (ah P c 3 m) n&&V))&&V)then(ad (ah P b 267 e) λr=>D (r,b))else Y) (aw g (G 63 [a,X [110,101,119]] g) λaj h=>ay (D aj) (ad (aL a) λam=>ad (ak P 104 am 1) λan=>ad (ah P h 3 an) λap=>ad (al P .add 3 V ap (I J 1)) λaq=>ad (aL a) λar=>ad (ak P 104 ar 1) λau=>aF h (aC P h 3 au aq) λc=>ad (ak P 106 j 3) λav=>ad (ah P c 3 av) λax=>aw c (G 322 [a,ax] c) λaz b=>aF b (aC P b 267 e az) λd=>ad (ah P d 267 e) λr=>D (r,d)) (aw h (G 63 [a,X [108,101,110]] h) λaA c=>ay (D aA) (ad (aL a) λaB=>ad (ak P 104 aB 1) λaD=>ad (ah P c 3 aD) λaE=>ad (al P .add 3 V aE (I J 1)) λaG=>ad (aL a) λaH=>ad (ak P 104 aH 1) λaI=>aF c (aC P c 3 aI aG) λb=>aw b (G 323 [a] b) λaM d=>aK d (bd P (d).next 205 1 [(0,aM)]) λaN f=>ad (ak P 106 j 3) λk=>ad (ah P f 3 k) λl=>ad (bo P 267 [(0,(I J 10)),(4,aN),(5,l)]) λaO=>aF f (aC P f 267 e aO) λi=>bif ((aJ (ah P b 3 k) l&&(aJ (ah P d 3 k) l&&(aJ (ah P f 3 k) l&&V)))&&V)then(ad (ah P i 267 e) λr=>D (r,i))else Y) (aw c (G 63 [a,X [114,101,97,100]] c) λaP b=>ay (D aP) (ad (aL a) λaQ=>ad (ak P 104 aQ 1) λaR=>ad (ah P b 3 aR) λaS=>ad (al P .add 3 V aS (I J 1)) λaT=>ad (aL a) λp=>ad (ak P 104 p 1) λq=>aF b (aC P b 3 q aT) λd=>aw d (G 182 [a,X [40]] d) λaU f=>aw f (G 184 [a,X [41]] f) λaV i=>ad (ak P 106 j 3) λs=>ad (ah P i 3 s) λt=>ad (bo P 267 [(0,(I J 11)),(5,t)]) λu=>aF i (aC P i 267 e u) λo=>ad (ah P o 267 e) λr=>D (r,o)) (aw b (G 63 [a,X [40]] b) λv d=>ay (D v) (aw d (G 323 [a] d) λw f=>aF f (aC P f 267 e w) λi=>ad (ah P i 267 e) λr=>D (r,i)) (l9 G a e j d))))))
def anU(G:ai)(N:Nat):∀C H,aD P G N (ae (ae (ae (aq (aq (ae (ae (aG Tryz.f298)))))))) (λC H=>l9 G (C 0) (C 2) (C 3) H) [(0,(λC H=>l9 G (C 0) (C 2) (C 3) H))] (ax Tryz.f298) C H=vE G (C 0) (C 2) (C 3) (C 28) H:=by
 refine aI ((bz j ((ar j ((ar j ((ar j (anV G N) (aj _))) (aj _))) (aj _))) (aj _))) λC H=> ?_
 delta vE;generalize l9 G=a;generalize vF G=b;revert a b;refine id ?_;intro a b;kernel_rfl
def Cf(G:ai)(b:aa)(H:af):O:=ba H [I J 0,I J 0,X [],X [],I J 0,aa.ao,I J 0,I J 0,I J 0,I J 0,I J 0] λg h=>aw h (G 62 [b] h) λL m=>ba m [I J 0,X [],I J 0,I J 0] λc i=>aF i (aC P i 106 c L) λj=>aw j (G 61 [b] j) λf n=>au f V n (aE (ak P 106 c 0)) λp k=>au f V k (qr (ah P k 3 p)) λq o=>au f V o (aE (al P .eql 3 V q (I J 2))) λs d=>ad (aU f (D s) (D (Z U))) λt=>ay (D t) (ad (aL b) λu=>ad (ak P 104 u 1) λv=>ad (ah P d 3 v) λw=>ad (al P .add 3 V w (I J 1)) λx=>ad (aL b) λy=>ad (ak P 104 y 1) λz=>aF d (aC P d 3 z x) λa=>ad (ak P 106 c 2) λA=>ad (ah P a 3 A) λB=>ad (ak P 106 c 3) λC=>ad (ah P a 3 C) λE=>ad (bo P 267 [(0,(I J 1)),(1,B),(5,E)]) λF=>aF a (aC P a 267 g F) λe=>ad (ah P e 267 g) λr=>D (r,e)) (aw d (G 63 [b,X [116,114,117,101]] d) λl a=>ay (D l) (vE G b g c l a) (aw a (G 63 [b,X [102,97,108,115,101]] a) λK e=>vE G b g c K e))
def anS(G:ai)(N:Nat)(b:aa)(H:af):aB Tryz.f298 G N (aO [b]) H=Cf G b H:=by
 refine aT (A:=aB Tryz.f298 G N) ((ar j ((ar j ((ar j (anT G N) ((aX j ((ar j ((bz j (aj _) ((ar j (anU G N) (aj _))))) (aj _))))))) (aj _))) (aj _))) ?_;delta Cf;generalize vE G=a;revert a;refine id ?_;intro a;kernel_rfl
def CE(G:ai)(a o:aa)(H:af):O:=ba H [I J 0,I J 0,X [],X [],I J 0,aa.ao,I J 0,I J 0,I J 0,I J 0,I J 0] λh k=>aw k (G 63 [a,X [91]] k) λE b=>ad (bu .not E) λF=>ay (D F) (aw b (G 118 [a] b) λp c=>ad (bo P 114 [(0,p)]) λq=>ad (bo P 267 [(0,(I J 8)),(3,q),(5,o)]) λs=>aF c (aC P c 267 h s) λe=>ad (ah P e 267 h) λr=>D (r,e)) (ad (aL a) λt=>ad (ak P 104 t 1) λu=>ad (ah P b 3 u) λv=>ad (al P .add 3 V v (I J 1)) λw=>ad (aL a) λx=>ad (ak P 104 x 1) λy=>aF b (aC P b 3 y w) λc=>aw c (G 119 [a] c) λz e=>ba e [X [],I J 0] λd m=>aF m (aC P m 114 d z) λn=>aw n (G 67 [a,X [93]] n) λK i=>aw i (G 323 [a] i) λA f=>ad (ah P f 114 d) λg=>aK f (bd P (f).next 205 1 [(0,A)]) λB j=>ad (bo P 267 [(0,(I J 9)),(3,g),(4,B),(5,o)]) λC=>aF j (aC P j 267 h C) λl=>bif ((aJ (ah P i 114 d) g&&(aJ (ah P f 114 d) g&&(aJ (ah P j 114 d) g&&V)))&&V)then(ad (ah P l 267 h) λr=>D (r,l))else Y)
def aoE(G:ai)(N:Nat)(a:aa)(b:aa)(H:af):aB Tryz.f322 G N (aO [a,b]) H=CE G a b H:=by
 refine aT (A:=aB Tryz.f322 G N) (aj _) ?_;delta CE;kernel_rfl
def CF(G:ai)(b:aa)(H:af):O:=ba H [I J 0,I J 0,X [],X [],I J 0,aa.ao,I J 0,I J 0,I J 0,I J 0,I J 0] λh c=>aw c (G 182 [b,X [40]] c) λm d=>aw d (G 222 [b,I J 0] d) λl j=>ba j [I J 0,I J 0,X [],X [],I J 0,aa.ao,I J 0,I J 0,I J 0,I J 0,I J 0] λi e=>aF e (aC P e 267 i l) λf=>aw f (G 184 [b,X [41]] f) λn a=>ad (ah P a 267 i) λk=>aF a (aC P a 267 h k) λg=>ad (ah P g 267 h) λr=>D (r,g)
def aoF(G:ai)(N:Nat)(a:aa)(H:af):aB Tryz.f323 G N (aO [a]) H=CF G a H:=by
 refine aT (A:=aB Tryz.f323 G N) (aj _) ?_;delta CF;kernel_rfl
def vX(G:ai)(N:Nat)(b c:aa)(H:af):O:=aw H (G 184 [b,X [41]] H) λd a=>D (c,a)
def aoI(G:ai)(N:Nat):∀C H,aD P G N (ae (ae (ae (ae (ae (ae (aG Tryz.f324))))))) (ax Tryz.f324) [] (ax Tryz.f324) C H=vX G N (C 0) (C 3) H:=by
 refine aI (aj _) λC H=> ?_
 delta vX;kernel_rfl
def Hx(G:ai)(N:Nat)(g:aa->aa->af->O)(a f:aa)(H:af):O:=aw H (G 63 [a,X [44]] H) λi b=>ay (D i) (ad (aL a) λj=>ad (ak P 104 j 1) λk=>ad (ah P b 3 k) λl=>ad (al P .add 3 V l (I J 1)) λm=>ad (aL a) λn=>ad (ak P 104 n 1) λo=>aF b (aC P b 3 o m) λc=>aw c (G 222 [a,I J 0] c) λp d=>aK d (bd P (d).next 205 1 [(0,p)]) λq e=>aw e (bx P e [205,205] f q) λr h=>g a r h) (vX G N a f b)
def vY(G:ai)(N:Nat):Nat->aa->aa->af->O
 |0,_,_,_=>Y
 |n+1,a,b,H=>Hx G N (vY G N n) a b H
def aoG(G:ai)(N:Nat)(b:aa->aa->af->O):∀C H,aD P G N (aq (aq (aq (ae (ae (ae (ae (ae (aG Tryz.f324))))))))) (λC H=>b (C 0) (C 3) H) [(0,(λC H=>vX G N (C 0) (C 3) H))] (ax Tryz.f324) C H=Hx G N b (C 0) (C 3) H:=by
 refine aI (aj _) λC H=> ?_
 delta Hx;generalize vX G N=a;revert a;refine id ?_;intro a;kernel_rfl
def CG(G:ai)(N:Nat)(a:aa)(H:af):O:=aw H (G 182 [a,X [40]] H) λk d=>aw d (G 63 [a,X [41]] d) λj b=>ay (D j) (aw b (G 184 [a,X [41]] b) λl c=>D (aa.ao,c)) (aw b (G 222 [a,I J 0] b) λg c=>aK c (bd P (c).next 205 1 [(0,g)]) λh e=>aw e (bx P e [205,205] aa.ao h) λi f=>vY G N N a i f)
def aoH(G:ai)(N:Nat)(b:aa)(H:af):aB Tryz.f324 G N (aO [b]) H=CG G N b H:=by
 refine aT (A:=aB Tryz.f324 G N) ((ar j ((ar j ((ar j ((ar j ((ar j ((ar j (aoI G N) ((aX j ((a_ (k:=λm C H=>vY G N m (C 0) (C 3) H) j (λC H=>j) (λm=>aoG G N (vY G N m)))))))) (aj _))) (aj _))) (aj _))) (aj _))) (aj _))) ?_;delta CG;generalize vY G N N=a;revert a;refine id ?_;intro a;kernel_rfl
