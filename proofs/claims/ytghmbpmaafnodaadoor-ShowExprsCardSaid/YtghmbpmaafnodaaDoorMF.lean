/-
  Texts of one proof, laid together: ShA Ls Sp X1 Lx L1 L2.
-/
import Derived.Test.YtghmbpmaafnodaaDoorME
set_option linter.unusedVariables false
set_option linter.unusedSimpArgs false
set_option linter.defProp false
open Option renaming some→D,none→C
open Bool renaming true→X,false→U
open Go.bs.aa renaming int→I,str→Z,bool→Y
open Go.IntKind renaming i64→J
namespace Go.Proofs.YtghmbpmaafnodaaDoor
open Go.bs
open Nat (reduceAdd reduceLeDiff)
section
set_option maxRecDepth 100000
noncomputable section
def jE(G:az)(N:Nat)(ag e i:aa)(H:ad):O:=bh P .len [9] [ag] H λh=>j (cy P 61 [(0,(I J 0)),(3,h)]) λk=>bZ H (b5 P (H).next 36 1 [(0,k)]) λl a=>aJ a (c1 P a [36,36] i l) λm c=>a8 c (aU P c 29 e (.agg [I J 0,I J 0])) λd=>j (ak P d 29 e) λr=>D (.tuple [m,r],d)
def Nd(G:az)(N:Nat):∀ae H,br P G N (o (o (o (o (o (bD Tryd.f14)))))) (bm Tryd.f14) [] (bm Tryd.f14) ae H=jE G N (ae 0) (ae 3) (ae 4) H:=by
 refine bS (aL _) λae H=> ?_
 delta jE;kernel_rfl
def kV(a:aa->aa->aa->aa->ad->O)(ag d:aa)(e h:aa)(c:ad):O:=a ag d e h c
def lM(G:az)(N:Nat)(n:aa->aa->aa->aa->ad->O)(ag d:aa)(m e:aa)(H:ad):O:=bh P .len [9] [ag] H λbC=>j (aq P .lss 3 U e bC) λp=>aX (D p) (aJ H (G 39 [ag,e] H) λk o=>j (d_ k 0) λq=>j (d_ k 1) λl=>cn o [I J 0,Z [],I J 0,I J 0] λbq h=>a8 h (aU P h 61 bq q) λa=>j (aq P .eql 3 X l (I J 0)) λs=>aX (D s) (j (cy P 29 [(0,(I J 1)),(1,e)]) λu=>a8 a (aU P a 29 d u) λc=>j (ak P c 29 d) λr=>D (.tuple [aa.ar,r],c)) (j (ak P a 61 bq) λv=>bZ a (b5 P (a).next 36 1 [(0,v)]) λw c=>aJ c (c1 P c [36,36] m w) λx i=>j (aq P .add 3 U e l) λy=>aJ i (G 38 [ag,y] i) (kV n ag d x))) (jE G N ag d m H)
def mQ(G:az)(N:Nat):Nat->aa->aa->aa->aa->ad->O
 |0,_,_,_,_,_=>C
 |n+1,ag,a,c,d,H=>lM G N (mQ G N n) ag a c d H
def Nc(G:az)(N:Nat)(c:aa->aa->aa->aa->ad->O):∀ae H,br P G N (a7 (a7 (a7 (o (o (o (o (bD Tryd.f14)))))))) (λae H=>c (ae 0) (ae 3) (ae 4) (ae 5) H) [(0,(λae H=>jE G N (ae 0) (ae 3) (ae 4) H))] (bm Tryd.f14) ae H=lM G N c (ae 0) (ae 3) (ae 4) (ae 5) H:=by
 refine bS (aL _) λae H=> ?_
 delta lM kV;generalize jE G N=a;revert a;refine id ?_;intro a;kernel_rfl
def kW(G:az)(N:Nat)(ag d c:aa)(a:ad):O:=mQ G N N ag d aa.ar c a
def kU(G:az)(N:Nat)(ag:aa)(H:ad):O:=cn H [I J 0,I J 0] λc a=>bh P .len [9] [ag] a λh=>j (aq P .gtr 3 X h (I J 6000)) λe=>aX (D e) (a8 a (aU P a 29 c (.agg [I J 4,I J 0])) λd=>j (ak P d 29 c) λr=>D (.tuple [aa.ar,r],d)) (aJ a (G 38 [ag,I J 0] a) (kW G N ag c))
def L5(N:Nat){ag:aa}{H:ad}{r:aa×ad}(h:kU (aD P ay) N ag H=D r):aD P ay 14 [ag] H=D r:=cV N (S:=λG=>kU G N ag H) Tryd.func14 (λG=>dY ((aQ ah ((aQ ah ((aQ ah ((aQ ah ((aQ ah (Nd G N) ((dm ah ((eB (k:=λm ae H=>mQ G N m (ae 0) (ae 3) (ae 4) (ae 5) H) ah (λae H=>ah) (λm=>Nc G N (mQ G N m)))))))) (aL _))) (aL _))) (aL _))) (aL _))) (by delta kU kW;generalize mQ G N N=a;revert a;refine id ?_;intro a;kernel_rfl)) h
def hI(G:az)(N:Nat)(av:aa)(H:ad):O:=some (av,H)
def ND(G:az)(N:Nat):∀ae H,br P G N (o (o (bD Tryd.f38))) (bm Tryd.f38) [] (bm Tryd.f38) ae H=hI G N (ae 1) H:=by
 refine bS (aL _) λae H=> ?_
 delta hI;kernel_rfl
def p8(G:az)(N:Nat)(d:aa->aa->ad->O)(e:aa->aa->ad->O)(ag av:aa)(H:ad):O:=bh P .len [9] [ag] H λl=>j (aq P .lss 3 U av l) λa=>aN a X H (cv ag) λm h=>aN a X h (cv av) λn i=>aN a X i (bu (eU P 9 m n)) λo k=>aN a X k (bu (aq P .neq 5 X o (I .u8 10))) λp c=>j (cu a (D p) (D (Y U))) λq=>aX (D q) (j (aq P .add 3 X av (I J 1)) λs=>e ag s c) (d ag av c)
def lS(G:az)(N:Nat)(a:aa->aa->ad->O):Nat->aa->aa->ad->O
 |0,_,_,_=>C
 |n+1,ag,av,H=>p8 G N a (lS G N a n) ag av H
def NC(G:az)(N:Nat)(a:aa->aa->ad->O)(d:aa->aa->ad->O):∀ae H,br P G N (a7 (a7 (a7 (o (o (o (a7 (a7 (o (a7 (a7 (a7 (o (bD Tryd.f38)))))))))))))) (λae H=>d (ae 0) (ae 1) H) [(3,(λae H=>a (ae 0) (ae 1) H)),(2,(λae H=>a (ae 0) (ae 1) H)),(1,(λae H=>a (ae 0) (ae 1) H)),(0,(λae H=>hI G N (ae 1) H))] (bm Tryd.f38) ae H=p8 G N a d (ae 0) (ae 1) H:=by
 refine bS (aL _) λae H=> ?_
 delta p8;generalize a=c;revert c;refine id ?_;intro c;kernel_rfl
def kj(G:az)(N:Nat)(i:aa->aa->ad->O)(ag av:aa)(H:ad):O:=bh P .len [9] [ag] H λaw=>j (aq P .lss 3 U av aw) λax=>aX (D ax) (j (eU P 9 ag av) λF=>j (aq P .eql 5 X F (I .u8 32)) λc=>aN c U H (cv ag) λbC l=>aN c U l (cv av) λK v=>aN c U v (bu (eU P 9 bC K)) λL w=>aN c U w (bu (aq P .eql 5 X L (I .u8 9))) λM x=>j (cu c (D (Y X)) (D M)) λd=>aN d U x (cv ag) λQ y=>aN d U y (cv av) λR z=>aN d U z (bu (eU P 9 Q R)) λS A=>aN d U A (bu (aq P .eql 5 X S (I .u8 10))) λT B=>j (cu d (D (Y X)) (D T)) λe=>aN e U B (cv ag) λV E=>aN e U E (cv av) λW m=>aN e U m (bu (eU P 9 V W)) λab n=>aN e U n (bu (aq P .eql 5 X ab (I .u8 13))) λae h=>j (cu e (D (Y X)) (D ae)) λaf=>aX (D af) (j (aq P .add 3 X av (I J 1)) λah=>i ag ah h) (bh P .len [9] [ag] h λai=>j (aq P .sub 3 U ai av) λaj=>j (aq P .geq 3 X aj (I J 2)) λa=>aN a X h (cv ag) λak o=>aN a X o (cv av) λal p=>aN a X p (cv av) λam q=>aN a X q (bu (aq P .add 3 X am (I J 2))) λan s=>aN a X s (bu (jX P 9 ak (D al) (D an) C)) λao u=>aN a X u (bu (aq P .eql 9 X ao (Z [47,47]))) λap k=>j (cu a (D ap) (D (Y U))) λau=>aX (D au) (lS G N i N ag av k) (D (av,k)))) (hI G N av H)
def hZ(G:az)(N:Nat):Nat->aa->aa->ad->O
 |0,_,_,_=>C
 |n+1,ag,av,H=>kj G N (hZ G N n) ag av H
def NB(G:az)(N:Nat)(a:aa->aa->ad->O):∀ae H,br P G N (a7 (a7 (a7 (o (bD Tryd.f38))))) (λae H=>a (ae 0) (ae 1) H) [(0,(λae H=>hI G N (ae 1) H))] (bm Tryd.f38) ae H=kj G N a (ae 0) (ae 1) H:=by
 refine bS ((aQ ah ((dm ah ((dm ah ((aQ ah ((dB ah (aL _) ((aQ ah ((dB ah ((dm ah ((eB (k:=λm ae H=>lS G N a m (ae 0) (ae 1) H) ah (λae H=>ah) (λm=>NC G N a (lS G N a m)))))) (aL _))) (aL _))))) (aL _))))))) (aL _))) λae H=> ?_
 delta kj;generalize hI G N=c;generalize lS G N a N=d;revert c d;refine id ?_;intro c d;kernel_rfl
def ig(G:az)(N:Nat)(ag av:aa)(H:ad):O:=hZ G N N ag av H
def Ml(N:Nat){ag av:aa}{H:ad}{r:aa×ad}(h:ig (aD P ay) N ag av H=D r):aD P ay 38 [ag,av] H=D r:=cV N (S:=λG=>ig G N ag av H) Tryd.func38 (λG=>dY ((aQ ah ((aQ ah (ND G N) ((dm ah ((eB (k:=λm ae H=>hZ G N m (ae 0) (ae 1) H) ah (λae H=>ah) (λm=>NB G N (hZ G N m)))))))) (aL _))) (by delta ig;generalize hZ G N N=a;revert a;refine id ?_;intro a;kernel_rfl)) h
def e9(G:az)(ag av:aa)(H:ad):O:=cn H [I J 0,Z [],I J 0,I J 0] λc y=>j (eU P 9 ag av) λam=>aJ y (G 62 [am] y) λbC p=>aX (D bC) (aJ p (G 63 [ag,av,Y U] p) λw h=>j (aq P .add 3 U av w) λan=>j (jX P 9 ag (D av) (D an) C) λu=>aJ h (G 64 [u] h) λao d=>aX (D ao) (j (cy P 61 [(0,(I J 3)),(1,u),(3,av)]) λap=>a8 d (aU P d 61 c ap) λa=>j (ak P a 61 c) λr=>D (.tuple [r,w],a)) (aJ d (G 65 [u] d) λau a=>aX (D au) (j (cy P 61 [(0,(I J 1)),(1,u),(3,av)]) λaw=>a8 a (aU P a 61 c aw) λi=>j (ak P i 61 c) λr=>D (.tuple [r,w],i)) (a8 a (aU P a 61 c (.agg [I J 0,Z [],I J 0,I J 0])) λi=>j (ak P i 61 c) λr=>D (.tuple [r,I J 0],i)))) (j (eU P 9 ag av) λax=>aJ p (G 66 [ax] p) λay h=>aX (D ay) (aJ h (G 63 [ag,av,Y X] h) λm d=>j (aq P .add 3 U av m) λaA=>j (jX P 9 ag (D av) (D aA) C) λaC=>aJ d (G 67 [aC] d) λA a=>j (d_ A 0) λaD=>j (d_ A 1) λaE=>j (fq .not aE) λn=>aN n U a (cv m) λaF i=>aN n U i (bu (aq P .gtr 3 X aF (I J 1))) λaG ah=>aN n U ah (cv aG) λo ai=>aN o X ai (cv ag) λaH aj=>aN o X aj (cv av) λaI E=>aN o X E (bu (eU P 9 aH aI)) λaK F=>aN o X F (bu (aq P .eql 5 X aK (I .u8 48))) λaL K=>aN n U K (bu (cu o (D aL) (D (Y U)))) λaM L=>j (cu n (D (Y X)) (D aM)) λe=>aN e U L (cv av) λaO M=>aN e U M (cv m) λaP N=>aN e U N (bu (aq P .add 3 U aO aP)) λaQ Q=>aN e U Q (cv ag) λB z=>aN e U z (λq=>ha (b_ P .empty .len [9] [B]) (b_ P z .len [9] [B]) q) λaR R=>aN e U R (bu (aq P .lss 3 U aQ aR)) λaS S=>aN e U S (cv aS) λk T=>aN k X T (cv ag) λaT V=>aN k X V (cv av) λaV W=>aN k X W (cv m) λaW ab=>aN k X ab (bu (aq P .add 3 U aV aW)) λaY ae=>aN k X ae (bu (eU P 9 aT aY)) λaZ v=>aN k X v (λq=>eI v (G 62 [aZ] v) q) λa0 af=>aN e U af (bu (cu k (D a0) (D (Y U)))) λa1 s=>j (cu e (D (Y X)) (D a1)) λa2=>aX (D a2) (a8 s (aU P s 61 c (.agg [I J 0,Z [],I J 0,I J 0])) λl=>j (ak P l 61 c) λr=>D (.tuple [r,I J 0],l)) (j (cy P 61 [(0,(I J 2)),(2,aD),(3,av)]) λa3=>a8 s (aU P s 61 c a3) λl=>j (ak P l 61 c) λr=>D (.tuple [r,m],l))) (aJ h (G 68 [ag,av] h) λx d=>j (aq P .eql 9 X x (Z [])) λa4=>aX (D a4) (a8 d (aU P d 61 c (.agg [I J 0,Z [],I J 0,I J 0])) λa=>j (ak P a 61 c) λr=>D (.tuple [r,I J 0],a)) (j (cy P 61 [(0,(I J 4)),(1,x),(3,av)]) λa5=>bh P .len [9] [x] d λal=>a8 d (aU P d 61 c a5) λa=>j (ak P a 61 c) λr=>D (.tuple [r,al],a))))
def Mm(N:Nat){ag av:aa}{H:ad}{r:aa×ad}(h:e9 (aD P ay) ag av H=D r):aD P ay 39 [ag,av] H=D r:=cV N (S:=λG=>e9 G ag av H) Tryd.func39 (λ_=>by delta e9;kernel_rfl) h
def uo(G:az)(ag:aa)(H:ad):O:=j (aq P .geq 5 X ag (I .u8 97)) λd=>aN d X H (cv ag) λbq e=>aN d X e (bu (aq P .leq 5 X bq (I .u8 122))) λw h=>j (cu d (D w) (D (Y U))) λa=>aN a U h (cv ag) λp i=>aN a U i (bu (aq P .geq 5 X p (I .u8 65))) λq k=>aN a U k (cv q) λc l=>aN c X l (cv ag) λs m=>aN c X m (bu (aq P .leq 5 X s (I .u8 90))) λu n=>aN a U n (bu (cu c (D u) (D (Y U)))) λv o=>j (cu a (D (Y X)) (D v)) λbC=>D (bC,o)
def MC(N:Nat){ag:aa}{H:ad}{r:aa×ad}(h:uo (aD P ay) ag H=D r):aD P ay 62 [ag] H=D r:=cV N (S:=λG=>uo G ag H) Tryd.func62 (λ_=>by delta uo;kernel_rfl) h
def jG(G:az)(N:Nat)(a:aa)(H:ad):O:=some (a,H)
def Oc(G:az)(N:Nat):∀ae H,br P G N (o (o (o (bD Tryd.f63)))) (bm Tryd.f63) [] (bm Tryd.f63) ae H=jG G N (ae 7) H:=by
 refine bS (aL _) λae H=> ?_
 delta jG;kernel_rfl
def k2(G:az)(N:Nat)(m:aa->aa->aa->aa->ad->O)(ag av:aa)(l e:aa)(H:ad):O:=j (aq P .add 3 U av e) λL=>bh P .len [9] [ag] H λM=>j (aq P .lss 3 U L M) λa=>aN a X H (cv ag) λQ n=>aN a X n (cv av) λbC y=>aN a X y (cv e) λR z=>aN a X z (bu (aq P .add 3 U bC R)) λS A=>aN a X A (bu (eU P 9 Q S)) λT i=>aN a X i (λq=>eI i (G 66 [T] i) q) λV B=>aN a X B (cv V) λd E=>aN d U E (cv l) λW F=>aN d U F (bu (fq .not W)) λab K=>aN d U K (cv ab) λc o=>aN c X o (cv ag) λae p=>aN c X p (cv av) λaf s=>aN c X s (cv e) λah u=>aN c X u (bu (aq P .add 3 U af ah)) λai v=>aN c X v (bu (eU P 9 ae ai)) λaj h=>aN c X h (λq=>eI h (G 62 [aj] h) q) λak w=>aN d U w (bu (cu c (D ak) (D (Y U)))) λal x=>aN a X x (bu (cu d (D (Y X)) (D al))) λam k=>j (cu a (D am) (D (Y U))) λan=>aX (D an) (j (aq P .add 3 X e (I J 1)) λao=>m ag av l ao k) (jG G N e k)
def lX(G:az)(N:Nat):Nat->aa->aa->aa->aa->ad->O
 |0,_,_,_,_,_=>C
 |n+1,ag,av,a,c,H=>k2 G N (lX G N n) ag av a c H
def Ob(G:az)(N:Nat)(c:aa->aa->aa->aa->ad->O):∀ae H,br P G N (a7 (a7 (a7 (o (o (bD Tryd.f63)))))) (λae H=>c (ae 0) (ae 1) (ae 2) (ae 7) H) [(0,(λae H=>jG G N (ae 7) H))] (bm Tryd.f63) ae H=k2 G N c (ae 0) (ae 1) (ae 2) (ae 7) H:=by
 refine bS (aL _) λae H=> ?_
 delta k2;generalize jG G N=a;revert a;refine id ?_;intro a;kernel_rfl
def km(G:az)(N:Nat)(ag av a:aa)(H:ad):O:=lX G N N ag av a (I J 0) H
def MD(N:Nat){ag av a:aa}{H:ad}{r:aa×ad}(h:km (aD P ay) N ag av a H=D r):aD P ay 63 [ag,av,a] H=D r:=cV N (S:=λG=>km G N ag av a H) Tryd.func63 (λG=>dY ((aQ ah ((aQ ah ((aQ ah (Oc G N) ((dm ah ((eB (k:=λm ae H=>lX G N m (ae 0) (ae 1) (ae 2) (ae 7) H) ah (λae H=>ah) (λm=>Ob G N (lX G N m)))))))) (aL _))) (aL _))) (by delta km;generalize lX G N N=c;revert c;refine id ?_;intro c;kernel_rfl)) h
def lY(G:az)(N:Nat)(H:ad):O:=some ((Y U),H)
def Oe(G:az)(N:Nat):∀ae H,br P G N (o (o (o (bD Tryd.f64)))) (bm Tryd.f64) [] (bm Tryd.f64) ae H=lY G N H:=by
 refine bS (aL _) λae H=> ?_
 delta lY;kernel_rfl
def oJ(G:az)(N:Nat)(d:aa->aa->aa->ad->O)(ag a c:aa)(H:ad):O:=bh P .len [50] [a] H λl=>j (aq P .lss 3 U c l) λm=>aX (D m) (j (cM P 50 a c) λh=>j (ak P H 9 h) λi=>j (aq P .eql 9 U i ag) λk=>aX (D k) (D ((Y X),H)) (j (aq P .add 3 X c (I J 1)) λe=>d ag a e H)) (lY G N H)
def nc(G:az)(N:Nat):Nat->aa->aa->aa->ad->O
 |0,_,_,_,_=>C
 |n+1,ag,a,c,H=>oJ G N (nc G N n) ag a c H
def Od(G:az)(N:Nat)(c:aa->aa->aa->ad->O):∀ae H,br P G N (a7 (a7 (o (a7 (o (o (bD Tryd.f64))))))) (λae H=>c (ae 0) (ae 3) (ae 4) H) [(0,(λae H=>lY G N H))] (bm Tryd.f64) ae H=oJ G N c (ae 0) (ae 3) (ae 4) H:=by
 refine bS (aL _) λae H=> ?_
 delta oJ;generalize lY G N=a;revert a;refine id ?_;intro a;kernel_rfl
def oI(G:az)(N:Nat)(ag c:aa)(a:ad):O:=nc G N N ag c (I J 0) a
def nb(G:az)(N:Nat)(ag:aa)(H:ad):O:=aJ H (G 81 [] H) (oI G N ag)
def ME(N:Nat){ag:aa}{H:ad}{r:aa×ad}(h:nb (aD P ay) N ag H=D r):aD P ay 64 [ag] H=D r:=cV N (S:=λG=>nb G N ag H) Tryd.func64 (λG=>dY ((aQ ah ((aQ ah ((aQ ah (Oe G N) ((aQ ah ((dm ah ((eB (k:=λm ae H=>nc G N m (ae 0) (ae 3) (ae 4) H) ah (λae H=>ah) (λm=>Od G N (nc G N m)))))) (aL _))))) (aL _))) (aL _))) (by delta nb oI;generalize nc G N N=a;revert a;refine id ?_;intro a;kernel_rfl)) h
def hs(G:az)(N:Nat)(H:ad):O:=some ((Y X),H)
def Og(G:az)(N:Nat):∀ae H,br P G N (o (o (o (bD Tryd.f65)))) (bm Tryd.f65) [] (bm Tryd.f65) ae H=hs G N H:=by
 refine bS (aL _) λae H=> ?_
 delta hs;kernel_rfl
def iq(G:az)(N:Nat)(h:aa->aa->ad->O)(ag c:aa)(H:ad):O:=bh P .len [9] [ag] H λn=>j (aq P .lss 3 U c n) λo=>aX (D o) (j (eU P 9 ag c) λs=>aJ H (G 62 [s] H) λu i=>j (fq .not u) λa=>aN a X i (cv ag) λv k=>aN a X k (cv c) λw l=>aN a X l (bu (eU P 9 v w)) λx d=>aN a X d (λq=>eI d (G 66 [x] d) q) λy m=>aN a X m (bu (fq .not y)) λz e=>j (cu a (D z) (D (Y U))) λA=>aX (D A) (D ((Y U),e)) (j (aq P .add 3 X c (I J 1)) λp=>h ag p e)) (hs G N H)
def nd(G:az)(N:Nat):Nat->aa->aa->ad->O
 |0,_,_,_=>C
 |n+1,ag,a,H=>iq G N (nd G N n) ag a H
def Of(G:az)(N:Nat)(c:aa->aa->ad->O):∀ae H,br P G N (a7 (a7 (o (a7 (o (o (bD Tryd.f65))))))) (λae H=>c (ae 0) (ae 3) H) [(0,(λae H=>hs G N H))] (bm Tryd.f65) ae H=iq G N c (ae 0) (ae 3) H:=by
 refine bS (aL _) λae H=> ?_
 delta iq;generalize hs G N=a;revert a;refine id ?_;intro a;kernel_rfl
def h0(G:az)(N:Nat)(ag:aa)(H:ad):O:=bh P .len [9] [ag] H λA=>j (aq P .lss 3 X A (I J 1)) λbq=>aN bq U H (cv ag) λk h=>aN bq U h (λq=>ha (b_ P .empty .len [9] [k]) (b_ P h .len [9] [k]) q) λB l=>aN bq U l (bu (aq P .gtr 3 X B (I J 8))) λs m=>j (cu bq (D (Y X)) (D s)) λa=>aN a U m (cv ag) λu n=>aN a U n (bu (eU P 9 u (I J 0))) λv c=>aN a U c (λq=>eI c (G 62 [v] c) q) λw o=>aN a U o (bu (fq .not w)) λbC p=>j (cu a (D (Y X)) (D bC)) λe=>aN e U p (cv ag) λx d=>aN e U d (λq=>eI d (G 64 [x] d) q) λy i=>j (cu e (D (Y X)) (D y)) λz=>aX (D z) (D ((Y U),i)) (nd G N N ag (I J 0) i)
def MF(N:Nat){ag:aa}{H:ad}{r:aa×ad}(h:h0 (aD P ay) N ag H=D r):aD P ay 65 [ag] H=D r:=cV N (S:=λG=>h0 G N ag H) Tryd.func65 (λG=>dY ((aQ ah ((aQ ah ((aQ ah (Og G N) ((aQ ah ((dm ah ((eB (k:=λm ae H=>nd G N m (ae 0) (ae 3) H) ah (λae H=>ah) (λm=>Of G N (nd G N m)))))) (aL _))))) (aL _))) (aL _))) (by delta h0;generalize nd G N N=a;revert a;refine id ?_;intro a;kernel_rfl)) h
def uq(G:az)(ag:aa)(H:ad):O:=j (aq P .geq 5 X ag (I .u8 48)) λa=>aN a X H (cv ag) λbq c=>aN a X c (bu (aq P .leq 5 X bq (I .u8 57))) λe d=>j (cu a (D e) (D (Y U))) λh=>D (h,d)
def MG(N:Nat){ag:aa}{H:ad}{r:aa×ad}(h:uq (aD P ay) ag H=D r):aD P ay 66 [ag] H=D r:=cV N (S:=λG=>uq G ag H) Tryd.func66 (λ_=>by delta uq;kernel_rfl) h
def nf(G:az)(N:Nat)(a:aa)(H:ad):O:=some (.tuple [a,Y X],H)
def Oi(G:az)(N:Nat):∀ae H,br P G N (o (o (o (bD Tryd.f67)))) (bm Tryd.f67) [] (bm Tryd.f67) ae H=nf G N (ae 4) H:=by
 refine bS (aL _) λae H=> ?_
 delta nf;kernel_rfl
def qh(G:az)(N:Nat)(e:aa->aa->aa->ad->O)(ag a c:aa)(H:ad):O:=bh P .len [9] [ag] H λq=>j (aq P .lss 3 U c q) λh=>aX (D h) (j (eU P 9 ag c) λk=>j (aq P .sub 5 X k (I .u8 48)) λbC=>qz P 5 3 bC H λd=>j (aq P .sub 3 X (I J 9223372036854775807) d) λl=>j (aq P .quo 3 X l (I J 10)) λm=>j (aq P .gtr 3 U a m) λn=>aX (D n) (D (.tuple [I J 0,Y U],H)) (j (aq P .mul 3 X (I J 10) a) λo=>j (aq P .add 3 U o d) λp=>j (aq P .add 3 X c (I J 1)) λi=>e ag p i H)) (nf G N a H)
def lZ(G:az)(N:Nat):Nat->aa->aa->aa->ad->O
 |0,_,_,_,_=>C
 |n+1,ag,a,c,H=>qh G N (lZ G N n) ag a c H
def Oh(G:az)(N:Nat)(c:aa->aa->aa->ad->O):∀ae H,br P G N (a7 (a7 (o (a7 (o (o (bD Tryd.f67))))))) (λae H=>c (ae 0) (ae 4) (ae 5) H) [(0,(λae H=>nf G N (ae 4) H))] (bm Tryd.f67) ae H=qh G N c (ae 0) (ae 4) (ae 5) H:=by
 refine bS (aL _) λae H=> ?_
 delta qh;generalize nf G N=a;revert a;refine id ?_;intro a;kernel_rfl
def oK(G:az)(N:Nat)(ag:aa)(H:ad):O:=lZ G N N ag (I J 0) (I J 0) H
def MH(N:Nat){ag:aa}{H:ad}{r:aa×ad}(h:oK (aD P ay) N ag H=D r):aD P ay 67 [ag] H=D r:=cV N (S:=λG=>oK G N ag H) Tryd.func67 (λG=>dY ((aQ ah ((aQ ah ((aQ ah (Oi G N) ((aQ ah ((dm ah ((eB (k:=λm ae H=>lZ G N m (ae 0) (ae 4) (ae 5) H) ah (λae H=>ah) (λm=>Oh G N (lZ G N m)))))) (aL _))))) (aL _))) (aL _))) (by delta oK;generalize lZ G N N=a;revert a;refine id ?_;intro a;kernel_rfl)) h
def jH(G:az)(N:Nat)(H:ad):O:=some ((Z []),H)
def Om(G:az)(N:Nat):∀ae H,br P G N (o (o (o (o (o (bD Tryd.f68)))))) (bm Tryd.f68) [] (bm Tryd.f68) ae H=jH G N H:=by
 refine bS (aL _) λae H=> ?_
 delta jH;kernel_rfl
def qi(G:az)(N:Nat)(d:aa->aa->aa->aa->ad->O)(ag av:aa)(c a:aa)(H:ad):O:=bh P .len [9] [c] H λe=>j (aq P .lss 3 U a e) λh=>aX (D h) (j (eU P 9 ag av) λk=>j (eU P 9 c a) λl=>j (aq P .eql 5 U k l) λm=>aX (D m) (j (aq P .add 3 X a (I J 1)) λn=>j (jX P 9 c (D a) (D n) C) λo=>D (o,H)) (j (aq P .add 3 X a (I J 1)) λi=>d ag av c i H)) (jH G N H)
def l0(G:az)(N:Nat):Nat->aa->aa->aa->aa->ad->O
 |0,_,_,_,_,_=>C
 |n+1,ag,av,a,c,H=>qi G N (l0 G N n) ag av a c H
def Oj(G:az)(N:Nat)(c:aa->aa->aa->aa->ad->O):∀ae H,br P G N (a7 (a7 (o (a7 (o (o (o (o (bD Tryd.f68))))))))) (λae H=>c (ae 0) (ae 1) (ae 7) (ae 8) H) [(2,(λae H=>jH G N H))] (bm Tryd.f68) ae H=qi G N c (ae 0) (ae 1) (ae 7) (ae 8) H:=by
 refine bS (aL _) λae H=> ?_
 delta qi;generalize jH G N=a;revert a;refine id ?_;intro a;kernel_rfl
def k5(G:az)(N:Nat)(ag av:aa)(H:ad):O:=l0 G N N ag av (Z [123,125,40,41,91,93,59,58,44,46,61,43,45,42,47,37,60,33]) (I J 0) H
def Ol(G:az)(N:Nat):∀ae H,br P G N (o (o (o (bD Tryd.f68)))) (bm Tryd.f68) [] (bm Tryd.f68) ae H=k5 G N (ae 0) (ae 1) H:=by
 refine bS ((aQ ah ((aQ ah (Om G N) ((aQ ah ((dm ah ((eB (k:=λm ae H=>l0 G N m (ae 0) (ae 1) (ae 7) (ae 8) H) ah (λae H=>ah) (λm=>Oj G N (l0 G N m)))))) (aL _))))) (aL _))) λae H=> ?_
 delta k5;generalize l0 G N N=a;revert a;refine id ?_;intro a;kernel_rfl
def k4(G:az)(N:Nat)(h:aa->aa->aa->aa->ad->O)(ag av:aa)(c bq:aa)(H:ad):O:=bh P .len [50] [c] H λs=>j (aq P .lss 3 U bq s) λu=>aX (D u) (bh P .len [9] [ag] H λw=>j (aq P .sub 3 U w av) λx=>j (aq P .geq 3 X x (I J 2)) λa=>aN a X H (cv ag) λy i=>aN a X i (cv av) λz k=>aN a X k (cv av) λA l=>aN a X l (bu (aq P .add 3 X A (I J 2))) λB m=>aN a X m (bu (jX P 9 y (D z) (D B) C)) λE n=>aN a X n (cv c) λF o=>aN a X o (cv bq) λK p=>aN a X p (bu (cM P 50 F K)) λL e=>aN a X e (qr (ak P e 9 L)) λM q=>aN a X q (bu (aq P .eql 9 U E M)) λQ d=>j (cu a (D Q) (D (Y U))) λR=>aX (D R) (j (cM P 50 c bq) λS=>j (ak P d 9 S) λT=>D (T,d)) (j (aq P .add 3 X bq (I J 1)) λv=>h ag av c v d)) (k5 G N ag av H)
def k6(G:az)(N:Nat):Nat->aa->aa->aa->aa->ad->O
 |0,_,_,_,_,_=>C
 |n+1,ag,av,a,bq,H=>k4 G N (k6 G N n) ag av a bq H
def Ok(G:az)(N:Nat)(c:aa->aa->aa->aa->ad->O):∀ae H,br P G N (a7 (a7 (o (a7 (o (o (bD Tryd.f68))))))) (λae H=>c (ae 0) (ae 1) (ae 5) (ae 6) H) [(0,(λae H=>k5 G N (ae 0) (ae 1) H))] (bm Tryd.f68) ae H=k4 G N c (ae 0) (ae 1) (ae 5) (ae 6) H:=by
 refine bS (aL _) λae H=> ?_
 delta k4;generalize k5 G N=a;revert a;refine id ?_;intro a;kernel_rfl
def k3(G:az)(N:Nat)(ag av c:aa)(a:ad):O:=k6 G N N ag av c (I J 0) a
def kn(G:az)(N:Nat)(ag av:aa)(H:ad):O:=bZ H (D (.aB (H).next 0 5 1 (D 5),.row U 1 [[Z [60,61]],[Z [61,61]],[Z [33,61]],[Z [38,38]],[Z [124,124]]])) (k3 G N ag av)
def MI(N:Nat){ag av:aa}{H:ad}{r:aa×ad}(h:kn (aD P ay) N ag av H=D r):aD P ay 68 [ag,av] H=D r:=cV N (S:=λG=>kn G N ag av H) Tryd.func68 (λG=>dY ((aQ ah ((aQ ah ((aQ ah (Ol G N) ((aQ ah ((dm ah ((eB (k:=λm ae H=>k6 G N m (ae 0) (ae 1) (ae 5) (ae 6) H) ah (λae H=>ah) (λm=>Ok G N (k6 G N m)))))) (aL _))))) (aL _))) (aL _))) (by delta kn k3;generalize k6 G N N=a;revert a;refine id ?_;intro a;kernel_rfl)) h
def xD(av:aa)(a:ad):O:=some (av,a)
def uw(G:az)(H:ad):O:=bZ H (D (.aB (H).next 0 18 1 (D 18),.row U 1 [[Z [114,101,99,111,114,100]],[Z [103,108,111,98,97,108]],[Z [102,117,110,99]],[Z [118,97,114]],[Z [108,101,116]],[Z [105,102]],[Z [101,108,115,101]],[Z [119,104,105,108,101]],[Z [114,101,116,117,114,110]],[Z [112,114,105,110,116]],[Z [110,117,108,108]],[Z [110,101,119]],[Z [108,101,110]],[Z [114,101,97,100]],[Z [116,114,117,101]],[Z [102,97,108,115,101]],[Z [105,110,116]],[Z [98,111,111,108]]])) (xD)
def MP(N:Nat){H:ad}{r:aa×ad}(h:uw (aD P ay) H=D r):aD P ay 81 [] H=D r:=cV N (S:=λG=>uw G H) Tryd.func81 (λ_=>by delta uw xD;kernel_rfl) h
end
end
section
set_option linter.defProp false
def DK:=ai @ad.bX @ad.ds
def HM:=ai (ai (ai (ai (ai (ai (ai (ai @Hg @Hc) (ai @Eo @Ep)) (ai (ai @Eu @G6) (ai @uR (ai @dT @yM)))) (ai (ai (ai @eH @uP) (ai @Hb (ai @G8 @Ha))) (ai (ai @G9 @G_) (ai @G7 (ai @Ee @Ed))))) (ai (ai (ai (ai @yY @yq) (ai @yr (ai @ys @yl))) (ai (ai @ym @yn) (ai @yo (ai @yj @yp)))) (ai (ai (ai @yk @Option.bind_some.{0,0}) (ai @aW (ai @aR @yH))) (ai (ai @Ey @EA) (ai @Ex (ai @lG @xk)))))) (ai (ai (ai (ai (ai @Ez @List.getElem?_cons_zero.{0}) (ai @List.getElem?_cons_succ.{0} @List.drop_zero.{0})) (ai (ai @List.drop_succ_cons.{0} @List.take_succ_cons.{0}) (ai @List.take_zero.{0} (ai @List.set_cons_zero.{0} @List.set_cons_succ.{0})))) (ai (ai (ai @List.cons_append.{0} @List.nil_append.{0}) (ai @List.length_cons.{0} (ai @List.length_nil.{0} @List.all_cons.{0}))) (ai (ai @List.all_nil.{0} @Bool.and_true) (ai @Bool.and_self (ai @Nat.zero_add @Nat.add_zero))))) (ai (ai (ai (ai @bj @and_self) (ai @and_true (ai @true_and @if_true.{1}))) (ai (ai @aV @gF) (ai @hp (ai @rI @w6)))) (ai (ai (ai @tt @w5) (ai @w4 (ai @FU @FW))) (ai (ai @F1 @Ga) (ai @FV (ai @FR @FT))))))) (ai (ai (ai (ai (ai (ai @FX @FY) (ai @FZ @F0)) (ai (ai @si @sj) (ai @xS (ai @xR @F2)))) (ai (ai (ai @FL @FM) (ai @FN (ai @FO @FP))) (ai (ai @FQ @F3) (ai @F5 (ai @F4 @F6))))) (ai (ai (ai (ai @F7 @F8) (ai @F9 (ai @F_ @Gu))) (ai (ai @Gy @GA) (ai @uI (ai @qq @uJ)))) (ai (ai (ai @Gs @x1) (ai @x3 (ai @x2 @GD))) (ai (ai @GF @GG) (ai @GI (ai @GJ @Gv)))))) (ai (ai (ai (ai (ai @Gx @oV) (ai @x4 @Gw)) (ai (ai @Gt @Gz) (ai @GB (ai @GC @so)))) (ai (ai (ai @Gm @Gn) (ai @Gp (ai @Gq @Gr))) (ai (ai @A7 @Bf) (ai @A8 (ai @Bc @Bb))))) (ai (ai (ai (ai @Ba @A_) (ai @A9 (ai @Bd @Be))) (ai (ai @zX @DD) (ai @ad.sY (ai @ad.dw @ad.get_set_same)))) (ai (ai (ai @ad.get_set_other @ad.bX) (ai @ad.ds (ai @ad.Ek @ad.set_set))) (ai (ai @zl @zm) (ai @y6 (ai @y3 @y4)))))))) (ai (ai (ai (ai (ai (ai (ai @zq @zh) (ai @zi @zj)) (ai (ai @zk @zn) (ai @zr (ai @zs @zt)))) (ai (ai (ai @zo @zp) (ai @ze (ai @zf @y7))) (ai (ai @y2 @y9) (ai @y_ (ai @y8 @zd))))) (ai (ai (ai (ai @zg @za) (ai @y5 (ai @zb @zc))) (ai (ai @Aq @Ar) (ai @As (ai @At @Au)))) (ai (ai (ai @Av @Aw) (ai @Ax (ai @Ay @Az))) (ai (ai @AA @AD) (ai @AE (ai @AF @AG)))))) (ai (ai (ai (ai (ai @AH @AI) (ai @AJ @po)) (ai (ai @pr @AK) (ai @AL (ai @AM @AN)))) (ai (ai (ai @AO @AP) (ai @AQ (ai @AR @AS))) (ai (ai @AT @AU) (ai @AV (ai @AW @AX))))) (ai (ai (ai (ai @AY @AZ) (ai @A0 (ai @A1 @A2))) (ai (ai @A3 @A4) (ai @Ai (ai @Aj @Ak)))) (ai (ai (ai @Al @Am) (ai @An (ai @Ao @Ap))) (ai (ai @Bt @Bu) (ai @Bv (ai @Bw @Bx))))))) (ai (ai (ai (ai (ai (ai @By @Bz) (ai @BA @BB)) (ai (ai @BD @BE) (ai @BF (ai @BG @BH)))) (ai (ai (ai @BI @BJ) (ai @BK (ai @BL @BM))) (ai (ai @BN @BO) (ai @BP (ai @BQ @BR))))) (ai (ai (ai (ai @BS @BT) (ai @BU (ai @BV @BW))) (ai (ai @BX @BY) (ai @BZ (ai @B0 @B1)))) (ai (ai (ai @B2 @B3) (ai @B4 (ai @B5 @B6))) (ai (ai @B7 @B8) (ai @Bl (ai @Bm @Bn)))))) (ai (ai (ai (ai (ai @Bo @Bp) (ai @Bq @Br)) (ai (ai @Bs @Dd) (ai @rv (ai @te @ry)))) (ai (ai (ai @tf @rz) (ai @tg (ai @rA @th))) (ai (ai @mA @rB) (ai @C8 (ai @C9 @C_))))) (ai (ai (ai (ai @Da @ti) (ai @wO (ai @Db @Dc))) (ai (ai @C4 @C5) (ai @C6 (ai @C7 @Ci)))) (ai (ai (ai @Cj @Ck) (ai @wb (ai @Cl @wc))) (ai (ai @we @Cm) (ai @Cn (ai @v_ @wa))))))))
def bx:=ai (ai (ai (ai (ai @Hg @Hc) (ai @Eo (ai @Ep @Eu))) (ai (ai @G6 @uR) (ai @dT (ai @yM @eH)))) (ai (ai (ai @uP @Hb) (ai @G8 (ai @Ha @G9))) (ai (ai @G_ @G7) (ai @Ee (ai @Ed @yY))))) (ai (ai (ai (ai @yq @yr) (ai @ys (ai @yl @ym))) (ai (ai @yn @yo) (ai @yj (ai @yp @yk)))) (ai (ai (ai @Option.bind_some.{0,0} @aW) (ai @aR (ai @yH @Ey))) (ai (ai @EA @Ex) (ai @lG (ai @xk @Ez)))))
def dL:=ai (ai (ai (ai @List.getElem?_cons_zero.{0} (ai @List.getElem?_cons_succ.{0} @List.drop_zero.{0})) (ai (ai @List.drop_succ_cons.{0} @List.take_succ_cons.{0}) (ai @List.take_zero.{0} @List.set_cons_zero.{0}))) (ai (ai (ai @List.set_cons_succ.{0} @List.cons_append.{0}) (ai @List.nil_append.{0} @List.length_cons.{0})) (ai (ai @List.length_nil.{0} @List.all_cons.{0}) (ai @List.all_nil.{0} @Bool.and_true)))) (ai (ai (ai (ai @Bool.and_self @Nat.zero_add) (ai @Nat.add_zero @bj)) (ai (ai @and_self @and_true) (ai @true_and @if_true.{1}))) (ai (ai (ai @aV @gF) (ai @hp @rI)) (ai (ai @w6 @tt) (ai @w5 @w4))))
def cO:=ai (ai (ai (ai (ai @FU (ai @FW @F1)) (ai (ai @Ga @FV) (ai @FR @FT))) (ai (ai (ai @FX @FY) (ai @FZ @F0)) (ai (ai @si @sj) (ai @xS @xR)))) (ai (ai (ai @F2 (ai @FL @FM)) (ai (ai @FN @FO) (ai @FP @FQ))) (ai (ai (ai @F3 @F5) (ai @F4 @F6)) (ai (ai @F7 @F8) (ai @F9 @F_))))) (ai (ai (ai (ai @Gu (ai @Gy @GA)) (ai (ai @uI @qq) (ai @uJ @Gs))) (ai (ai (ai @x1 @x3) (ai @x2 @GD)) (ai (ai @GF @GG) (ai @GI @GJ)))) (ai (ai (ai @Gv (ai @Gx @oV)) (ai (ai @x4 @Gw) (ai @Gt @Gz))) (ai (ai (ai @GB @GC) (ai @so @Gm)) (ai (ai @Gn @Gp) (ai @Gq @Gr)))))
def da:=ai (ai (ai @A7 (ai @Bf @A8)) (ai @Bc (ai @Bb @Ba))) (ai (ai @A_ (ai @A9 @Bd)) (ai @Be (ai @zX @DD)))
def dE:=ai (ai (ai @ad.sY @ad.dw) (ai @ad.get_set_same @ad.get_set_other)) (ai (ai @ad.bX @ad.ds) (ai @ad.Ek @ad.set_set))
def ec:=ai (ai (ai (ai (ai (ai (ai @zl @zm) (ai @y6 (ai @y3 @y4))) (ai (ai @zq @zh) (ai @zi (ai @zj @zk)))) (ai (ai (ai @zn @zr) (ai @zs (ai @zt @zo))) (ai (ai @zp @ze) (ai @zf (ai @y7 @y2))))) (ai (ai (ai (ai @y9 @y_) (ai @y8 (ai @zd @zg))) (ai (ai @za @y5) (ai @zb (ai @zc @Aq)))) (ai (ai (ai @Ar @As) (ai @At (ai @Au @Av))) (ai (ai @Aw @Ax) (ai @Ay (ai @Az @AA)))))) (ai (ai (ai (ai (ai @AD @AE) (ai @AF (ai @AG @AH))) (ai (ai @AI @AJ) (ai @po (ai @pr @AK)))) (ai (ai (ai @AL @AM) (ai @AN (ai @AO @AP))) (ai (ai @AQ @AR) (ai @AS (ai @AT @AU))))) (ai (ai (ai (ai @AV @AW) (ai @AX (ai @AY @AZ))) (ai (ai @A0 @A1) (ai @A2 (ai @A3 @A4)))) (ai (ai (ai @Ai @Aj) (ai @Ak (ai @Al @Am))) (ai (ai @An @Ao) (ai @Ap (ai @Bt @Bu))))))) (ai (ai (ai (ai (ai (ai @Bv @Bw) (ai @Bx (ai @By @Bz))) (ai (ai @BA @BB) (ai @BD (ai @BE @BF)))) (ai (ai (ai @BG @BH) (ai @BI (ai @BJ @BK))) (ai (ai @BL @BM) (ai @BN (ai @BO @BP))))) (ai (ai (ai (ai @BQ @BR) (ai @BS (ai @BT @BU))) (ai (ai @BV @BW) (ai @BX (ai @BY @BZ)))) (ai (ai (ai @B0 @B1) (ai @B2 (ai @B3 @B4))) (ai (ai @B5 @B6) (ai @B7 (ai @B8 @Bl)))))) (ai (ai (ai (ai (ai @Bm @Bn) (ai @Bo (ai @Bp @Bq))) (ai (ai @Br @Bs) (ai @Dd (ai @rv @te)))) (ai (ai (ai @ry @tf) (ai @rz (ai @tg @rA))) (ai (ai @th @mA) (ai @rB (ai @C8 @C9))))) (ai (ai (ai (ai @C_ @Da) (ai @ti (ai @wO @Db))) (ai (ai @Dc @C4) (ai @C5 (ai @C6 @C7)))) (ai (ai (ai @Ci @Cj) (ai @Ck (ai @wb @Cl))) (ai (ai @wc (ai @we @Cm)) (ai @Cn (ai @v_ @wa)))))))
def DY:=ai (ai @gF (ai @hp @rI)) (ai (ai @w6 @tt) (ai @w5 @w4))
def aj{p:Prop}(h:p:=by first|assumption|omega|(simp only[DK];omega)|(simp only[DY];done)|fail):p:=h
def P9{p:Prop}(h:p:=by first|assumption|omega|(simp only[DK];omega)|(simp only[DY];done)|(simp only[List.length_append,List.length_cons,List.length_nil];omega)|fail):p:=h
def IQ:(∀cs,(aa.agg cs).cells=cs)/\(∀b,(aa.bool b).cells=[Y b])/\(∀k n,(aa.int k n).cells=[.int k n])/\(∀s,(aa.str s).cells=[Z s])/\(∀l i c,(aa.ptr l i c).cells=[.ptr l i c])/\aa.nilPtr.cells=[.nilPtr]/\(∀l i n e c,(aa.aB l i n e c).cells=[.aB l i n e c])/\aa.ar.cells=[.ar]/\(∀f a b,(aa.func f a b).cells=[.func f a b])/\aa.nilFunc.cells=[.nilFunc]/\aa.nilIface.cells=[.nilIface]:=
 ⟨λ_=>rfl,λ_=>rfl,λ_ _=>rfl,λ_=>rfl,λ_ _ _=>rfl,rfl,λ_ _ _ _ _=>rfl,rfl,λ_ _ _=>rfl,rfl,rfl⟩
def aw:=ai @bh.eq_1 (ai @cW.eq_1 (ai @ak.eq_1 (ai @aU.eq_1 (ai IQ HM))))
end
abbrev aC:=List UInt8
structure Tok where
 kind:Int
 text:aC
 n:Int
 pos:Int
def Tok.none:Tok:=⟨0,[],0,0⟩
def al(T:List Tok)(at_:Int):Tok:=if at_<0\/(T.length:Int)<=at_ then .none else T[at_.toNat]?.getD .none
structure au where
 at_:Int
 bU:Int
 aG:Int
 cP:Int
abbrev iO(n:Int):Int:=IntKind.i64.wrap n
structure bG where
 kind:Int
 n:Int:=0
 name:aC:=[]
 cf:aC:=[]
 cS:Int:=0
 pos:Int:=0
 nq:Int:=0
 qp:Int:=0
 ld:Int:=0
 ref:Int:=0
inductive aA where
 |mk (a:bG) (kids:List aA)
def aA.zero:aA:= .mk {kind:=0} []
def ck(T:List Tok)(s:au)(k:Int)(x:aC):Bool:=s.aG==0&&((al T s.at_).kind==k&&(al T s.at_).text==x)
def cQ(T:List Tok)(e:Int)(s:au):au:=if s.aG=0 then {s with aG:=e,cP:=(al T s.at_).pos}else s
def aF(s:au):au:={s with at_:=iO (s.at_+1)}
def qo(T:List Tok)(k:Int)(x:aC)(s:au):Bool×au:=bif ck T s k x then(X,aF s)else(U,s)
def eG(T:List Tok)(x:aC)(s:au):Bool×au:=bif ck T s 4 x then(X,aF s)else(U,cQ T 2 s)
def dA(T:List Tok)(x:aC)(s:au):Bool×au:=bif ck T s 4 x then(if 50<=s.bU then(U,cQ T 4 s)else(X,{s with at_:=iO (s.at_+1),bU:=iO (s.bU+1)}))else(U,cQ T 2 s)
def eh(s:au):au:={s with bU:=iO (s.bU-1)}
def iC(T:List Tok)(x:aC)(s:au):Bool×au:=eG T x (eh s)
def hF(T:List Tok):Nat->Int->au->(Int×au) ⊕ au
 |0,d,s=>bif ck T s 4 [91]then .inr (cQ T 4 s)else .inl (d,s)
 |n+1,d,s=>bif ck T s 4 [91]then hF T n (d+1) (aF s)else .inl (d,s)
def kq(T:List Tok)(x:aC):Nat->au->au
 |0,s=>s
 |n+1,s=>kq T x n (eG T x s).2
def jf(T:List Tok)(d:Int)(s:au):(aC×Int)×au:=bif ((al T s.at_).kind != 1&&(!ck T s 3 [105,110,116]&& !ck T s 3 [98,111,111,108]))then(([],0),cQ T 2 s) else(((al T s.at_).text,d),kq T [93] d.toNat (aF s))
def e6(T:List Tok)(s:au):(aC×Int)×au:=match hF T 3 0 s with
 | .inr s'=>(([],0),s')
 | .inl (d,s')=>jf T d s'
def j9:List (List (aC×Int)):=[[([124,124],24)],[([38,38],23)],[([60],19),([60,61],20),([61,61],21),([33,61],22)],[([43],14),([45],15)],[([42],16),([47],17),([37],18)]]
def mv(T:List Tok)(s:au):List (aC×Int)->Int
 |[]=>0
 |(x,k)::r=>bif ck T s 4 x then k else mv T s r
def mw(T:List Tok)(lev:Nat)(s:au):Int:=mv T s (j9[lev]?.getD [])
def Gl(T:List Tok)(s:au):aA×au:=(.mk {kind:=2,n:=bif (al T s.at_).text==[116,114,117,101]then 1 else 0,pos:=(al T s.at_).pos} [],aF s)
def DJ(T:List Tok)(s:au):aA×au:=(.mk {kind:=3,cf:=(e6 T (aF s)).1.1,cS:=(e6 T (aF s)).1.2,pos:=(al T s.at_).pos} [],(e6 T (aF s)).2)
def rU(T:List Tok)(s:au):aA×au:=(.mk {kind:=11,pos:=(al T s.at_).pos} [],bif (dA T [40] (aF s)).1 then(iC T [41] (dA T [40] (aF s)).2).2 else(dA T [40] (aF s)).2)
def jw(T:List Tok)(e:aA)(s:au):aA×au:=(.mk {kind:=5,name:=(al T (aF s).at_).text,pos:=(al T s.at_).pos} [e],aF (bif (al T (aF s).at_).kind != 1 then cQ T 2 (aF s)else aF s))
abbrev ae(α:Type):=Option (α×au)
mutual
def hX(T:List Tok):Nat->Nat->au->ae aA
 |0,_,_=>C
 |n+1,lev,s=>if lev=5 then oY T n s else(hX T n (lev+1) s).bind λp=>oe T n lev p.1 p.2
def oe(T:List Tok):Nat->Nat->aA->au->ae aA
 |0,_,_,_=>C
 |n+1,lev,e,s=>if mw T lev s=0 then D (e,s)else
  (hX T n (lev+1) (aF s)).bind λp=>oe T n lev (.mk {kind:=mw T lev s,pos:=(al T s.at_).pos} [e,p.1]) p.2
def oY(T:List Tok):Nat->au->ae aA
 |0,_=>C
 |n+1,s=>bif ck T s 4 [45]then uz T n [45] 12 s else bif ck T s 4 [33]then uz T n [33] 13 s else sK T n s
def uz(T:List Tok):Nat->aC->Int->au->ae aA
 |0,_,_,_=>C
 |n+1,x,k,s=>bif (dA T x s).1 then(oY T n (dA T x s).2).bind λp=>D (.mk {kind:=k,pos:=(al T s.at_).pos} [p.1],eh p.2)else D (.zero,(dA T x s).2)
def sK(T:List Tok):Nat->au->ae aA
 |0,_=>C
 |n+1,s=>(lx T n s).bind λp=>j0 T n p.1 p.2
def j0(T:List Tok):Nat->aA->au->ae aA
 |0,_,_=>C
 |n+1,e,s=>bif s.aG==0&&(al T s.at_).kind==4 then
  (bif (al T s.at_).text==[46]then j0 T n (jw T e s).1 (jw T e s).2
  else bif (al T s.at_).text==[91]then(kp T n [91] [93] s).bind λp=>j0 T n (.mk {kind:=6,pos:=(al T s.at_).pos} [e,p.1]) p.2
  else D (e,s))else D (e,s)
def kp(T:List Tok):Nat->aC->aC->au->ae aA
 |0,_,_,_=>C
 |n+1,b,c,s=>bif (dA T b s).1 then(hX T n 0 (dA T b s).2).bind λp=>D (p.1,(iC T c p.2).2)else D (.zero,(dA T b s).2)
def lx(T:List Tok):Nat->au->ae aA
 |0,_=>C
 |n+1,s=>if s.aG≠0 then D (.zero,s)else
  if(al T s.at_).kind=2 then D (.mk {kind:=1,n:=(al T s.at_).n,pos:=(al T s.at_).pos} [],aF s)else
  if(al T s.at_).kind=1 then wV T n s else
  if(al T s.at_).kind=3\/(al T s.at_).kind=4 then
   (bif (al T s.at_).kind==4 then(bif (al T s.at_).text==[40]then kp T n [40] [41] s else D (.zero,cQ T 2 s))
   else bif (al T s.at_).text==[116,114,117,101]||(al T s.at_).text==[102,97,108,115,101]then D (Gl T s)
   else bif (al T s.at_).text==[110,117,108,108]then D (DJ T s)
   else bif (al T s.at_).text==[110,101,119]then vT T n s
   else bif (al T s.at_).text==[108,101,110]then(kp T n [40] [41] (aF s)).bind λp=>D (.mk {kind:=10,pos:=(al T s.at_).pos} [p.1],p.2)
   else bif (al T s.at_).text==[114,101,97,100]then D (rU T s)
   else D (.zero,cQ T 2 s))
  else D (.zero,cQ T 2 s)
def wV(T:List Tok):Nat->au->ae aA
 |0,_=>C
 |n+1,s=>bif ck T (aF s) 4 [40]then(ru T n (aF s)).bind λp=>D (.mk {kind:=7,name:=(al T s.at_).text,pos:=(al T s.at_).pos} p.1,p.2)
  else D (.mk {kind:=4,name:=(al T s.at_).text,pos:=(al T s.at_).pos} [],aF s)
def vT(T:List Tok):Nat->au->ae aA
 |0,_=>C
 |n+1,s=>bif ck T (aF s) 4 [91]then
  (kp T n [40] [41] (eG T [93] (e6 T (aF (aF s))).2).2).bind λp=>
   D (.mk {kind:=9,cf:=(e6 T (aF (aF s))).1.1,cS:=(e6 T (aF (aF s))).1.2,pos:=(al T s.at_).pos} [p.1],p.2)
  else D (.mk {kind:=8,cf:=(al T (aF s).at_).text,pos:=(al T s.at_).pos} [],aF (bif (al T (aF s).at_).kind != 1 then cQ T 2 (aF s)else aF s))
def ru(T:List Tok):Nat->au->ae (List aA)
 |0,_=>C
 |n+1,s=>bif (dA T [40] s).1 then
  (bif ck T (dA T [40] s).2 4 [41]then D ([],(iC T [41] (dA T [40] s).2).2)
  else(hX T n 0 (dA T [40] s).2).bind λp=>pJ T n [p.1] p.2)
  else D ([],(dA T [40] s).2)
def pJ(T:List Tok):Nat->List aA->au->ae (List aA)
 |0,_,_=>C
 |n+1,l,s=>bif (qo T 4 [44] s).1 then(hX T n 0 (qo T 4 [44] s).2).bind λp=>pJ T n (l++[p.1]) p.2
  else D (l,(iC T [41] (qo T 4 [44] s).2).2)
end
def Tok.cells(t:Tok):List aa:=[I J t.kind,Z t.text,I J t.n,I J t.pos]
def Tok.v(t:Tok):aa:= .agg [I J t.kind,Z t.text,I J t.n,I J t.pos]
def eS(H:ad)(v:aa)(T:List Tok):Prop:=(v= .ar/\T=[])\/∃l i cap,v= .aB l i T.length 4 cap/\(T=[]\/∃ro els,H.get l=D (.row ro 4 els)/\∀(k:Nat) (t:Tok),T[k]? =D t->els[i+k]? =D t.cells)
def jq(H:ad)(r:Nat)(ao b0:aa)(s:au):Prop:=H.get r=D (.row U 6 [[ao,I J s.at_,I J s.bU,b0,I J s.aG,I J s.cP]])
def KO:List (List (List aa)):=[[[Z [124,124],I J 24]],[[Z [38,38],I J 23]],[[Z [60],I J 19],[Z [60,61],I J 20],[Z [61,61],I J 21],[Z [33,61],I J 22]],[[Z [43],I J 14],[Z [45],I J 15]],[[Z [42],I J 16],[Z [47],I J 17],[Z [37],I J 18]]]
def o2(H:ad)(b0:aa):Prop:=∃l i cap ro els,b0= .aB l i 5 1 cap/\H.get l=D (.row ro 1 els)/\∀(k:Nat) (row:List (List aa)),KO[k]? =D row->∃l' c d h a,els[i+k]? =D [.aB l' c row.length 2 d]/\H.get l'=D (.row h 2 a)/\∀(j:Nat) (e:List aa),row[j]? =D e->a[c+j]? =D e
def o1(H:ad)(b0:aa):Prop:=b0= .ar\/o2 H b0
structure jT(H:ad)(r:Nat)(T:List Tok)(ao b0:aa)(s:au):Prop where
 rd:jq H r ao b0 s
 bJ:eS H ao T
 b0:o1 H b0
abbrev cb(r:Nat):ad->ad->Prop:=c0 (· =r)
def eS.a1{H H':ad}{v:aa}{T:List Tok}(h:eS H v T)(p:∀l ro els,H.get l=D (.row ro 4 els)->H'.get l=D (.row ro 4 els)):eS H' v T:=by
 rcases h with h|⟨l,i,cap,c,a|⟨ro,els,a,d⟩⟩
 ·exact .inl h
 ·exact .inr ⟨l,i,cap,c,.inl a⟩
 ·exact .inr ⟨l,i,cap,c,.inr ⟨ro,els,p _ _ _ a,d⟩⟩
def eS.aM{H H':ad}{v:aa}{T:List Tok}(h:eS H v T)(p:aO H H'):eS H' v T:=h.a1 λ_ _ _ e=>p.get e
def eS.one{H:ad}{v:aa}{T:List Tok}(h:eS H v T):v.one=true:=by
 rcases h with⟨rfl,_⟩|⟨l,i,cap,rfl,_⟩<;>rfl
def o2.one{H:ad}{v:aa}(h:o2 H v):v.one=true:=by
 obtain⟨l,i,cap,ro,els,rfl,_⟩:=h;rfl
def o1.one{H:ad}{v:aa}(h:o1 H v):v.one=true:=by
 rcases h with rfl|h
 ·rfl
 ·exact h.one
def o2.a1{H H':ad}{v:aa}(h:o2 H v)(p:∀l ro n els,n≠6->H.get l=D (.row ro n els)->H'.get l=D (.row ro n els)):o2 H' v:=by
 obtain⟨l,i,cap,ro,els,d,e,j⟩:=h;refine⟨l,i,cap,ro,els,d,p _ _ _ _ af e,λk row m=> ?_⟩;obtain⟨l',o,a,q,c,an,aE,bn⟩:=j k row m;exact⟨l',o,a,q,c,an,p _ _ _ _ af aE,bn⟩
def o1.a1{H H':ad}{v:aa}(h:o1 H v)(p:∀l ro n els,n≠6->H.get l=D (.row ro n els)->H'.get l=D (.row ro n els)):o1 H' v:=by
 rcases h with rfl|h
 ·exact .inl rfl
 ·exact .inr (h.a1 p)
def jq.aM{H H':ad}{r:Nat}{ao b0:aa}{s:au}(a:jq H r ao b0 s)(p:aO H H'):jq H' r ao b0 s:=p.get a
def jq.lt{H:ad}{r:Nat}{ao b0:aa}{s:au}(a:jq H r ao b0 s):r<H.next:=ad.aS a
def jT.mut{H H':ad}{r:Nat}{T:List Tok}{ao b0:aa}{s s':au}(h:jT H r T ao b0 s)(m:cb r H H')(c:jq H' r ao b0 s'):jT H' r T ao b0 s':=by
 have a:∀l ro n els,n≠6->H.get l=D (.row ro n els)->H'.get l=D (.row ro n els):=λl ro n els d e=>m.get e (by
  rintro rfl;rw[h.rd]at e;simp only[aV,bW.row.injEq]at e;exact d e.2.1.symm)
 exact⟨c,h.bJ.a1 λl ro els e=>a l ro 4 els af e,h.b0.a1 a⟩
def jT.aM{H H':ad}{r:Nat}{T:List Tok}{ao b0:aa}{s:au}(h:jT H r T ao b0 s)(p:aO H H'):jT H' r T ao b0 s:=h.mut (p.mut _) (h.rd.aM p)
def kK(c:Int):Bool:=(decide (97<=c)&&decide (c<=122))||(decide (65<=c)&&decide (c<=90))
def mo(c:Int):Bool:=decide (48<=c)&&decide (c<=57)
def c8(b:UInt8):Bool:=kK b.toNat
def dh(b:UInt8):Bool:=mo b.toNat
def oZ:List aC:=[[114,101,99,111,114,100],[103,108,111,98,97,108],[102,117,110,99],[118,97,114],[108,101,116],[105,102],[101,108,115,101],[119,104,105,108,101],[114,101,116,117,114,110],[112,114,105,110,116],[110,117,108,108],[110,101,119],[108,101,110],[114,101,97,100],[116,114,117,101],[102,97,108,115,101],[105,110,116],[98,111,111,108]]
def e4(x:aC):List aC->Bool
 |[]=>U
 |y::a=>y==x||e4 x a
def fm(x:aC):Bool:=e4 x oZ
def js:aC->Bool
 |[]=>X
 |c::r=>(c8 c||dh c)&&js r
def dP(x:aC):Bool:=decide (1<=x.length)&&(decide (x.length<=8)&&(c8 (x.headD 0)&&(!fm x&&js x)))
def runN(d:Bool):aC->Nat
 |[]=>0
 |c::r=>bif dh c||(!d&&c8 c)then runN d r+1 else 0
def hx:Int->aC->Option Int
 |n,[]=>D n
 |n,c::r=>if(9223372036854775807-((c.toNat:Int)-48))/10<n then C else hx (10*n+((c.toNat:Int)-48)) r
def hM:List aC:=[[60,61],[61,61],[33,61],[38,38],[124,124]]
def gG:aC:=[123,125,40,41,91,93,59,58,44,46,61,43,45,42,47,37,60,33]
def hE(c:UInt8):aC->Bool
 |[]=>U
 |y::a=>c.toNat==y.toNat||hE c a
def gZ(s:aC):aC:=bif decide (2<=s.length)&&e4 (s.take 2) hM then s.take 2 else match s with
 |c::_=>bif hE c gG then[c]else[]
 |[]=>[]
def hC(c:UInt8):Bool:=c.toNat==32||(c.toNat==9||(c.toNat==10||c.toNat==13))
def cG:Bool->aC->Nat
 |_,[]=>0
 |true,c::r=>bif c.toNat==10 then cG U r+1 else cG X r+1
 |false,c::r=>bif hC c then cG U r+1 else bif c==47&&r.head?==D 47 then cG X r+1 else 0
def ga(s:aC):Option (Int×aC×Int×Nat):=match s with
 |[]=>C
 |c::_=>
  bif c8 c then(bif fm (s.take (runN U s))then D (3,s.take (runN U s),0,runN U s)else bif dP (s.take (runN U s))then D (1,s.take (runN U s),0,runN U s)else C)
  else bif dh c then
   (match hx 0 (s.take (runN X s))with
   |none=>C
   |some v=>bif (decide (1<runN X s)&&c.toNat==48)||(decide (runN X s<s.length)&&c8 ((s[runN X s]?).getD 0))then C else D (2,[],v,runN X s))
  else bif gZ s==[]then C else D (4,gZ s,0,(gZ s).length)
def fG:Nat->aC->Nat->Nat ⊕ List Tok
 |0,_,p=> .inl p
 |_+1,[],p=> .inr [⟨0,[],0,p⟩]
 |n+1,c::r,p=>match ga (c::r)with
  |none=> .inl p
  |some (k,t,v,m)=>match fG n (((c::r).drop m).drop (cG U ((c::r).drop m))) (p+m+cG U ((c::r).drop m))with
   | .inl e=> .inl e
   | .inr l=> .inr (⟨k,t,v,p⟩::l)
def pH(s:aC):Nat ⊕ List Tok:=fG (s.length+1) (s.drop (cG U s)) (cG U s)
def dx(s:aC):List Tok×Int×Int:=if 6000<s.length then([],4,0)else match pH s with
 | .inl e=>([],1,e)
 | .inr l=>(l,0,0)
def Kh(s:List UInt8)(k:Int):eU P 9 (Z s) (I J k)=if 0<=k then(match s[k.toNat]? with|some b=>D (I .u8 b.toNat)|none=>C)else none:=ah
def j8{s:List UInt8}{k:Nat}{b:UInt8}(h:s[k]? =D b):eU P 9 (Z s) (I J (k:Int))=D (I .u8 b.toNat):=by
 rw[Kh,if_pos af];simp[h]
def Ki{s:List UInt8}{b:UInt8}(h:s[0]? =D b):eU P 9 (Z s) (I J 0)=D (I .u8 b.toNat):=j8 (k:=0) h
def lg(a b:Nat)(h:a+b<=4000000000000000000):IntKind.i64.wrap ((a:Int)+(b:Int))=((a+b:Nat):Int):=by rw[wrap_i64 af af];omega
def iv(a:Nat)(h:a<=4000000000000000000):IntKind.i64.wrap ((a:Int)+1)=((a+1:Nat):Int):=by rw[wrap_i64 af af];omega
def uO(a:Nat)(h:a<=4000000000000000000):IntKind.i64.wrap ((a:Int)+2)=((a+2:Nat):Int):=by rw[wrap_i64 af af];omega
def G4(a b:Nat)(h:a<=4000000000000000000)(c:b<=a):IntKind.i64.wrap ((a:Int)-(b:Int))=((a-b:Nat):Int):=by rw[wrap_i64 af af];omega
def pF{H:ad}(c:Int):W (aD P ay 62 [I .u8 c] H) λv H'=>v= Y (kK c)/\H'=H:=by
 refine cF (λ_=>MC 0) ?_;unfold kK;cases a:decide (97<=c)<;>cases d:decide (c<=122)<;>cases e:decide (65<=c)<;>cases h:decide (c<=90)<;>
  (simp-implicitDefEqProofs(disch:=try exact aj)only[uo,bh,bx,da,a,d,e,h];exact ba.2 ⟨rfl,rfl⟩)
def vC{H:ad}(c:Int):W (aD P ay 66 [I .u8 c] H) λv H'=>v= Y (mo c)/\H'=H:=by
 refine cF (λ_=>MG 0) ?_;unfold mo;cases a:decide (48<=c)<;>cases d:decide (c<=57)<;>
  (simp-implicitDefEqProofs(disch:=try exact aj)only[uq,bh,bx,da,a,d];exact ba.2 ⟨rfl,rfl⟩)
def drop_cons{s:aC}{k:Nat}{c:UInt8}{r:aC}(h:s.drop k=c::r):s[k]? =D c/\s.drop (k+1)=r/\k<s.length/\s.length=k+1+r.length:=by
 have a:s[k]? =D c:=by
  have:=List.getElem?_drop (xs:=s) (i:=k) (j:=0);rw[h]at this;simpa using this.symm
 have d:s.drop (k+1)=r:=by
  have:(s.drop k).drop 1=r:=by rw[h];rfl
  rwa[List.drop_drop]at this
 have e:k<s.length:=(List.getElem?_eq_some_iff.1 a).1;have l:=congrArg List.length h;simp at l;exact⟨a,d,e,af⟩
def drop_nil{s:aC}{k:Nat}(h:s.drop k=[]):s.length<=k:=List.drop_eq_nil_iff.1 h
def E7{H:ad}{s:aC}(ax:s.length<=1000000000000000000)(at_:Nat)(d:Bool)(N:Nat):∀(rest:aC) (n m:Nat),s.drop (at_+n)=rest->at_+n<=s.length->rest.length<m->
  W (lX (aD P ay) N m (Z s) (I J at_) (Y d) (I J n) H) λv H'=>v= I J ((n+runN d rest:Nat):Int)/\H'=H
 |_,_,0,_,_,hm=>af
 |[],n,m+1,h,p,hm=>by
  have:=drop_nil h;have i:¬(((at_+n:Nat):Int)<(s.length:Int)):=af;simp-implicitDefEqProofs(disch:=try exact aj)only[lX,jG,k2,km,reduceAdd,reduceLeDiff,reduceIte,aw,lg,i,decide_false];exact ba.2 ⟨by simp[runN],rfl⟩
 |c::r,n,m+1,h,p,hm=>by
  obtain⟨an,aE,bn,b8⟩:=drop_cons h;have i:(((at_+n:Nat):Int)<(s.length:Int)):=af;have q:=E7 (H:=H) ax at_ d N r (n+1) m (by rw[<-Nat.add_assoc];exact aE) af (by simp at hm;omega);have j:=j8 an;simp-implicitDefEqProofs(disch:=try exact aj)only[lX,jG,k2,km,reduceAdd,reduceLeDiff,reduceIte,aw,lg,i,decide_true,j];refine o7 (vC _) ?_;have fin:∀b,(dh c||(!d&&c8 c))=b->(b=X->W (lX (aD P ay) N m (Z s) (I J at_) (Y d) (I J ((n+1:Nat):Int)) H) λv H'=>v= I J ((n+runN d (c::r):Nat):Int)/\H'=H)/\(b=U->n+runN d (c::r)=n):=by
   intro b k;refine⟨λh=> ?_,λh=> ?_⟩
   ·refine q.mono ?_;rintro v H' ⟨rfl,rfl⟩;subst h;have e:runN d (c::r)=runN d r+1:=by rw[runN,k];rfl
    have o:n+1+runN d r=n+runN d (c::r):=by rw[e];omega
    exact⟨by rw[o],rfl⟩
   ·subst h;rw[runN,k];rfl
  cases a:mo (c.toNat:Int)with
  |true=>
   simp-implicitDefEqProofs(disch:=try exact aj)only[jG,k2,km,bh,bx,da,iv];exact(fin X (by simp[dh,a])).1 rfl
  |false=>
   cases d with
   |true=>
    simp-implicitDefEqProofs(disch:=try exact aj)only[jG,k2,km,bh,bx,Bool.not_true];exact ba.2 ⟨by rw[(fin U (by simp[dh,a])).2 rfl],rfl⟩
   |false=>
    simp-implicitDefEqProofs(disch:=try exact aj)only[jG,k2,km,reduceAdd,reduceLeDiff,reduceIte,aw,Bool.not_false,lg,j];refine o7 (pF _) ?_;cases l:kK (c.toNat:Int)with
    |true=>
     simp-implicitDefEqProofs(disch:=try exact aj)only[jG,k2,km,bh,bx,da,iv];exact(fin X (by simp[dh,c8,a,l])).1 rfl
    |false=>
     simp-implicitDefEqProofs(disch:=try exact aj)only[jG,k2,km,bh,bx];exact ba.2 ⟨by rw[(fin U (by simp[dh,c8,a,l])).2 rfl],rfl⟩
def E_{H:ad}{s:aC}(ax:s.length<=1000000000000000000)(at_:Nat)(a:at_<=s.length)(d:Bool):W (aD P ay 63 [Z s,I J at_,Y d] H) λv H'=>v= I J (runN d (s.drop at_):Nat)/\H'=H:=by
 refine cF (λ_=>MD (s.length+1)) ?_;rw[km];have:=E7 (H:=H) ax at_ d (s.length+1) (s.drop at_) 0 (s.length+1) rfl af (by simp;omega);simpa using this
def yC{H:ad}{x:aC}{l:Nat}(N:Nat)(all:List aC)(h:all.length<=1000)(d:H.get l=D (.row U 1 (all.map λy=>[aa.str y]))):∀(rest pre:List aC),all=pre++rest->∀(m:Nat),rest.length<m->
  W (nc (aD P ay) N m (Z x) (.aB l 0 all.length 1 (D all.length)) (I J pre.length) H) λv H'=>v= Y (e4 x rest)/\H'=H
 |_,_,_,0,hm=>af
 |[],pre,aI,m+1,hm=>by
  have a:¬((pre.length:Int)<(all.length:Int)):=by rw[aI];simp
  simp-implicitDefEqProofs(disch:=try exact aj)only[nc,lY,oJ,oI,nb,reduceAdd,reduceLeDiff,reduceIte,aw,a,decide_false];exact ba.2 ⟨rfl,rfl⟩
 |y::i,pre,aI,m+1,hm=>by
  have a:((pre.length:Int)<(all.length:Int)):=by rw[aI];simp;omega
  have j:(0:Int)<=(pre.length:Int):=af;have an:((pre.length:Int)).toNat=pre.length:=af;have hle:pre.length<all.length:=af;have he:(all.map λy=>[aa.str y])[pre.length]? =D [aa.str y]:=by rw[aI];simp
  have hw:((pre++[y]).length:Int)=((pre.length+1:Nat):Int):=by simp
  simp-implicitDefEqProofs(disch:=try exact aj)only[nc,lY,oJ,oI,nb,reduceAdd,reduceLeDiff,reduceIte,aw,a,decide_true,d,an,he];cases c:y==x with
  |true=>
   simp-implicitDefEqProofs(disch:=try exact aj)only[lY,oJ,oI,nb,bh,bx];exact ba.2 ⟨by simp[e4,c],rfl⟩
  |false=>
   have e:=yC (H:=H) (x:=x) N all h d i (pre++[y]) (by simp[aI]) m (by simp at hm;omega);rw[hw]at e;simp-implicitDefEqProofs(disch:=try exact aj)only[lY,oJ,oI,nb,bh,bx,da,iv];refine e.mono ?_;rintro v H' ⟨rfl,rfl⟩;exact⟨by simp[e4,c],rfl⟩
def yD{H:ad}(x:aC):W (aD P ay 64 [Z x] H) λv H'=>v= Y (fm x)/\aO H H':=by
 refine cF (λ_=>ME 19) ?_;rw[nb];have hw:W (aD P ay 81 [] H) λv H'=>v= .aB H.next 0 oZ.length 1 (D oZ.length)/\H'=H.push (.row U 1 (oZ.map λy=>[aa.str y])):=by
  refine cF (λ_=>MP 0) ?_;rw[uw];simp only[uP,xD];exact ba.2 ⟨rfl,rfl⟩
 refine aP hw ?_;rintro _ _ ⟨rfl,rfl⟩;refine⟨(aO.push _ _).1,?_⟩;rw[oI];refine(yC (x:=x) 19 oZ bf (ad.bI _ _) oZ [] rfl 19 bf).mono ?_;rintro v H' ⟨rfl,rfl⟩;exact⟨rfl,aO.push _ _⟩
def yu{H:ad}{s:aC}(ax:s.length<=1000000000000000000)(N:Nat):∀(rest:aC) (n m:Nat),s.drop n=rest->n<=s.length->rest.length<m->
  W (nd (aD P ay) N m (Z s) (I J n) H) λv H'=>v= Y (js rest)/\H'=H
 |_,_,0,_,_,hm=>af
 |[],n,m+1,h,l,hm=>by
  have:=drop_nil h;have a:¬((n:Int)<(s.length:Int)):=af;simp-implicitDefEqProofs(disch:=try exact aj)only[nd,hs,iq,h0,reduceAdd,reduceLeDiff,reduceIte,aw,a,decide_false];exact ba.2 ⟨by simp[js],rfl⟩
 |c::r,n,m+1,h,l,hm=>by
  obtain⟨an,aE,bn,b8⟩:=drop_cons h;have a:((n:Int)<(s.length:Int)):=af;have k:=yu (H:=H) ax N r (n+1) m aE af (by simp at hm;omega);have d:=j8 an;simp-implicitDefEqProofs(disch:=try exact aj)only[nd,hs,iq,h0,reduceAdd,reduceLeDiff,reduceIte,aw,a,decide_true,d];refine mf (pF _) ?_;cases j:kK (c.toNat:Int)with
  |true=>
   simp-implicitDefEqProofs(disch:=try exact aj)only[hs,iq,h0,bh,bx,da,Bool.not_true,iv];refine k.mono ?_;rintro v H' ⟨rfl,e⟩;exact⟨by simp[js,c8,j],e⟩
  |false=>
   simp-implicitDefEqProofs(disch:=try exact aj)only[hs,iq,h0,reduceAdd,reduceLeDiff,reduceIte,aw,Bool.not_false,d];refine o7 (vC _) ?_;cases i:mo (c.toNat:Int)with
   |true=>
    simp-implicitDefEqProofs(disch:=try exact aj)only[hs,iq,h0,bh,bx,da,Bool.not_true,iv];refine k.mono ?_;rintro v H' ⟨rfl,e⟩;exact⟨by simp[js,dh,i],e⟩
   |false=>
    simp-implicitDefEqProofs(disch:=try exact aj)only[hs,iq,h0,bh,bx,da,Bool.not_false];exact ba.2 ⟨by simp[js,c8,dh,j,i],rfl⟩
def Hp{H:ad}{s:aC}(ax:s.length<=1000000000000000000):W (aD P ay 65 [Z s] H) λv H'=>v= Y (dP s)/\aO H H':=by
 refine cF (λ_=>MF (s.length+1)) ?_;cases d:s with
 |nil=>
  have a:((([]:aC).length:Nat):Int)<1:=by simp
  simp-implicitDefEqProofs(disch:=try exact aj)only[hs,iq,h0,bh,bx,ec,da,a,decide_true];exact ba.2 ⟨by simp[dP],.refl _⟩
 |cons c r=>
  rw[<-d];have p:1<=s.length:=by rw[d];simp
  have a:¬((s.length:Int)<1):=af;have n:s[0]? =D c:=by rw[d];rfl
  have o:=Ki n;have l:s.headD 0=c:=by rw[d];rfl
  by_cases j:(8:Int)<(s.length:Int)
  ·have h:¬s.length<=8:=af;simp-implicitDefEqProofs(disch:=try exact aj)only[hs,iq,h0,bh,bx,ec,da,a,j,decide_true,decide_false];exact ba.2 ⟨by simp[dP,h],.refl _⟩
  ·have h:s.length<=8:=af;simp-implicitDefEqProofs(disch:=try exact aj)only[hs,iq,h0,bh,bx,ec,da,a,j,decide_false,o];refine o7 (pF _) ?_;cases k:kK (c.toNat:Int)with
   |false=>
    simp-implicitDefEqProofs(disch:=try exact aj)only[hs,iq,h0,bh,bx,Bool.not_false];exact ba.2 ⟨by unfold dP;rw[l];simp[c8,k],.refl _⟩
   |true=>
    simp-implicitDefEqProofs(disch:=try exact aj)only[hs,iq,h0,bh,bx,Bool.not_true];refine iA (yD s) ?_;rintro _ m ⟨rfl,i⟩;refine⟨i.1,?_⟩;cases hw:fm s with
    |true=>
     simp-implicitDefEqProofs(disch:=try exact aj)only[hs,iq,h0,bh,bx];exact ba.2 ⟨by simp[dP,hw],i⟩
    |false=>
     simp-implicitDefEqProofs(disch:=try exact aj)only[hs,h0,bh,bx];refine(yu (H:=m) ax (s.length+1) s 0 (s.length+1) rfl af af).mono ?_;rintro v H' ⟨rfl,e⟩;exact⟨by unfold dP;rw[l];simp[p,h,c8,k,hw],by rw[e];exact i⟩
def zQ(n:Int):mg P 5 3 (I .u8 n)=D (I J (IntKind.i64.wrap n)):=ah
def Et(t:Bool)(a:Int):aq P .quo 3 t (I J a) (I J 10)=D (I J (IntKind.i64.wrap (a.tdiv 10))):=by simp[aq,hR]
def KZ(t:Bool)(a b:Int):aq P .mul 3 t (I J a) (I J b)=D (I J (IntKind.i64.wrap (a*b))):=Jd _ _ _ _ _
def wrap_u8{n:Int}(a:0<=n)(c:n<=255):IntKind.u8.wrap n=n:=by
 show n%256=n;omega
def G1{H:ad}{s:aC}(ax:s.length<=1000000000000000000)(N:Nat):∀(rest:aC) (n m:Nat) (acc:Int),s.drop n=rest->n<=s.length->rest.length<m->0<=acc->acc<=9223372036854775807->(∀c∈rest,dh c=X)->
  W (lZ (aD P ay) N m (Z s) (I J acc) (I J n) H) λv H'=>v=(match hx acc rest with|some z=> .tuple [I J z,Y X]|none=> .tuple [I J 0,Y U])/\H'=H
 |_,_,0,_,_,_,hm,_,_,_=>af
 |[],n,m+1,acc,h,y,hm,w,x,j=>by
  have:=drop_nil h;have a:¬((n:Int)<(s.length:Int)):=af;simp-implicitDefEqProofs(disch:=try exact aj)only[lZ,nf,qh,oK,reduceAdd,reduceLeDiff,reduceIte,aw,a,decide_false];exact ba.2 ⟨by simp[hx],rfl⟩
 |c::r,n,m+1,acc,h,y,hm,w,x,j=>by
  obtain⟨an,aE,bn,b8⟩:=drop_cons h;have a:((n:Int)<(s.length:Int)):=af;have k:=j8 an;have i:=j c (by simp);simp only[dh,mo,Bool.and_eq_true,decide_eq_true_eq]at i;have l:IntKind.u8.wrap ((c.toNat:Int)-48)=(c.toNat:Int)-48:=wrap_u8 af af;have o:IntKind.i64.wrap ((c.toNat:Int)-48)=(c.toNat:Int)-48:=wrap_i64 af af;have p:IntKind.i64.wrap (9223372036854775807-((c.toNat:Int)-48))=9223372036854775807-((c.toNat:Int)-48):=wrap_i64 af af;have q:(9223372036854775807-((c.toNat:Int)-48)).tdiv 10=(9223372036854775807-((c.toNat:Int)-48))/10:=Int.tdiv_eq_ediv_of_nonneg af;have u:IntKind.i64.wrap ((9223372036854775807-((c.toNat:Int)-48))/10)=(9223372036854775807-((c.toNat:Int)-48))/10:=wrap_i64 af af
  by_cases d:(9223372036854775807-((c.toNat:Int)-48))/10<acc
  ·simp-implicitDefEqProofs(disch:=try exact aj)only[lZ,nf,qh,oK,reduceAdd,reduceLeDiff,reduceIte,aw,a,decide_true,k,l,o,p,q,u,Et,qz,zQ,d];exact ba.2 ⟨by simp[hx,d],rfl⟩
  ·have B:IntKind.i64.wrap (10*acc)=10*acc:=wrap_i64 af af;have E:IntKind.i64.wrap (10*acc+((c.toNat:Int)-48))=10*acc+((c.toNat:Int)-48):=wrap_i64 af af;have A:=G1 (H:=H) ax N r (n+1) m (10*acc+((c.toNat:Int)-48)) aE af (by simp at hm;omega) af af (λc i=>j c (by simp[i]));simp-implicitDefEqProofs(disch:=try exact aj)only[lZ,nf,qh,oK,reduceAdd,reduceLeDiff,reduceIte,aw,a,decide_true,k,l,o,p,q,u,B,E,Et,KZ,qz,zQ,d,decide_false,iv];refine A.mono ?_;rintro v H' ⟨rfl,e⟩;exact⟨by rw[hx,if_neg d],e⟩
def E4:∀(s:aC),∀c∈s.take (runN X s),dh c=X
 |[],c,h=>by simp[runN]at h
 |x::r,c,h=>by
  rw[runN]at h;cases a:dh x with
  |true=>
   simp only[a,Bool.true_or,aW,List.take_succ_cons,List.mem_cons]at h;rcases h with rfl|h
   ·exact a
   ·exact E4 r c h
  |false=>simp[a]at h
def PX{H:ad}{s:aC}(ax:s.length<=1000000000000000000)(a:∀c∈s,dh c=X):W (aD P ay 67 [Z s] H) λv H'=>v=(match hx 0 s with|some z=> .tuple [I J z,Y X]|none=> .tuple [I J 0,Y U])/\H'=H:=by
 refine cF (λ_=>MH (s.length+1)) ?_;rw[oK];exact G1 ax (s.length+1) s 0 (s.length+1) 0 rfl af af af af a
def PO:P.underlying 9=D .string:=ah
def sf{s:List UInt8}{a b:Nat}(c:a<=b)(d:b<=s.length):jX P 9 (Z s) (D (I J (a:Int))) (D (I J (b:Int))) C=D (Z ((s.drop a).take (b-a))):=by
 have an:eT (D (I J (b:Int))) s.length s.length=D b:=by simp[eT];omega
 have aE:eT (D (I J (a:Int))) 0 b=D a:=by simp[eT];omega
 simp only[jX,PO,an,aE]
def D1{H:ad}{s:aC}{at_:Nat}{c:UInt8}(l:s[at_]? =D c)(N:Nat):∀(rest:aC) (j m:Nat),gG.drop j=rest->j<=18->rest.length<m->
  W (l0 (aD P ay) N m (Z s) (I J at_) (Z gG) (I J j) H) λv H'=>v= Z (bif hE c rest then[c]else[])/\H'=H
 |_,_,0,_,_,hm=>af
 |[],j,m+1,h,q,hm=>by
  have:=drop_nil h;have u:gG.length=18:=rfl;have d:¬((j:Int)<(gG.length:Int)):=af;simp-implicitDefEqProofs(disch:=try exact aj)only[l0,jH,qi,k5,k4,k3,kn,reduceAdd,reduceLeDiff,reduceIte,aw,d,decide_false];exact ba.2 ⟨by simp[hE],rfl⟩
 |y::r,j,m+1,h,q,hm=>by
  obtain⟨an,aE,bn,b8⟩:=drop_cons h;have u:gG.length=18:=rfl;have d:((j:Int)<(gG.length:Int)):=af;have k:=j8 an;have n:=j8 l;have w:=D1 (H:=H) l N r (j+1) m aE af (by simp at hm;omega);have p:=sf (s:=gG) (a:=j) (b:=j+1) af af;have dK:(gG.drop j).take (j+1-j)=[y]:=by rw[h,Nat.add_sub_cancel_left];rfl
  rw[dK]at p;cases he:((c.toNat:Int)==(y.toNat:Int))with
  |true=>
   have o:c=y:=by
    have:(c.toNat:Int)=(y.toNat:Int):=by simpa using he
    exact UInt8.toNat_inj.1 af
   have i:(c.toNat==y.toNat)=true:=by rw[o];simp
   simp-implicitDefEqProofs(disch:=try exact aj)only[l0,jH,qi,k5,k4,k3,kn,reduceAdd,reduceLeDiff,reduceIte,aw,d,decide_true,k,n,he,iv,p];exact ba.2 ⟨by simp[hE,i,o],rfl⟩
  |false=>
   have i:(c.toNat==y.toNat)=false:=by
    have:¬(c.toNat:Int)=(y.toNat:Int):=by simpa using he
    simp;omega
   simp-implicitDefEqProofs(disch:=try exact aj)only[l0,jH,qi,k5,k4,k3,kn,reduceAdd,reduceLeDiff,reduceIte,aw,d,decide_true,k,n,he,iv];refine w.mono ?_;rintro v H' ⟨rfl,e⟩;exact⟨by simp[hE,i],e⟩
def Ld{H:ad}{s:aC}{at_:Nat}{c:UInt8}(a:s[at_]? =D c){N:Nat}(d:18<N):W (k5 (aD P ay) N (Z s) (I J at_) H) λv H'=>v= Z (bif hE c gG then[c]else[])/\H'=H:=by
 rw[k5];exact D1 a N gG 0 N rfl af (by simp[gG];omega)
def GL{H:ad}{s:aC}(ax:s.length<=1000000000000000000){at_:Nat}{c:UInt8}{r:aC}(n:s.drop at_=c::r){l:Nat}{N:Nat}(w:18<N)(i:H.get l=D (.row U 1 (hM.map λy=>[aa.str y]))):∀(rest pre:List aC),hM=pre++rest->∀(m:Nat),rest.length<m->
  W (k6 (aD P ay) N m (Z s) (I J at_) (.aB l 0 5 1 (D 5)) (I J pre.length) H) λv H'=>v= Z (bif decide (2<=(s.drop at_).length)&&e4 ((s.drop at_).take 2) rest then(s.drop at_).take 2 else bif hE c gG then[c]else[])/\H'=H
 |_,_,_,0,hm=>af
 |[],pre,aI,m+1,hm=>by
  have B:pre.length=5:=by have:=congrArg List.length aI;simpa [hM]using this.symm
  have d:¬((pre.length:Int)<((5:Nat):Int)):=af;obtain⟨an,aE,bn,b8⟩:=drop_cons n;simp-implicitDefEqProofs(disch:=try exact aj)only[k6,jH,k4,k3,kn,reduceAdd,reduceLeDiff,reduceIte,aw,d,decide_false];refine(Ld an w).mono ?_;rintro v H' ⟨rfl,e⟩;exact⟨by simp[e4],e⟩
 |y::A,pre,aI,m+1,hm=>by
  obtain⟨an,aE,bn,b8⟩:=drop_cons n;have B:pre.length+(A.length+1)=5:=by have:=congrArg List.length aI;simpa [hM]using this.symm
  have d:((pre.length:Int)<((5:Nat):Int)):=af;have E:(0:Int)<=(pre.length:Int):=af;have t1:((pre.length:Int)).toNat=pre.length:=af;have he:(hM.map λy=>[aa.str y])[pre.length]? =D [aa.str y]:=by rw[aI];simp
  have hw:((pre++[y]).length:Int)=((pre.length+1:Nat):Int):=by simp
  have q:=GL (H:=H) ax n w i A (pre++[y]) (by simp[aI]) m (by simp at hm;omega);rw[hw]at q;have x:(s.drop at_).length=s.length-at_:=by simp
  have u:IntKind.i64.wrap ((s.length:Int)-(at_:Int))=((s.length-at_:Nat):Int):=G4 s.length at_ af af;have F:=ad.aS i;by_cases j:(2:Int)<=((s.length-at_:Nat):Int)
  ·have k:decide (2<=(s.drop at_).length)=true:=by rw[x];simp;omega
   have o:=sf (s:=s) (a:=at_) (b:=at_+2) af af;rw[Nat.add_sub_cancel_left]at o;cases h:((s.drop at_).take 2==y)with
   |true=>
    have z:(s.drop at_).take 2=y:=by simpa using h
    have p:(y==(s.drop at_).take 2)=true:=by rw[z];simp
    simp-implicitDefEqProofs(disch:=try exact aj)only[k6,jH,k4,k3,kn,reduceAdd,reduceLeDiff,reduceIte,aw,d,decide_true,u,j,uO,o,i,he,t1,h];exact ba.2 ⟨by rw[e4,k,p];rw[z];rfl,rfl⟩
   |false=>
    have p:(y==(s.drop at_).take 2)=false:=by
     have:¬(s.drop at_).take 2=y:=by simpa using h
     simp;exactλe=>this e.symm
    simp-implicitDefEqProofs(disch:=try exact aj)only[k6,jH,k4,k3,kn,reduceAdd,reduceLeDiff,reduceIte,aw,d,decide_true,u,j,uO,o,i,he,t1,h,iv];refine q.mono ?_;rintro v H' ⟨rfl,e⟩;exact⟨by simp only[e4,p,Bool.false_or],e⟩
  ·have k:decide (2<=(s.drop at_).length)=false:=by rw[x];simp;omega
   simp-implicitDefEqProofs(disch:=try exact aj)only[k6,jH,k4,k3,kn,reduceAdd,reduceLeDiff,reduceIte,aw,d,decide_true,u,j,decide_false,iv];refine q.mono ?_;rintro v H' ⟨rfl,e⟩;exact⟨by simp only[k,Bool.false_and],e⟩
def OZ{H:ad}{s:aC}(ax:s.length<=1000000000000000000){at_:Nat}(d:at_<s.length):W (aD P ay 68 [Z s,I J at_] H) λv H'=>v= Z (gZ (s.drop at_))/\aO H H':=by
 refine cF (λ_=>MI 30) ?_;obtain⟨c,r,a⟩:∃c r,s.drop at_=c::r:=by
  cases h:s.drop at_ with
  |nil=>have:=drop_nil h;omega
  |cons c r=>exact⟨c,r,rfl⟩
 rw[kn];simp only[uP];rw[k3];refine(GL (H:=H.push _) ax a af (ad.bI _ _) hM [] rfl 30 bf).mono ?_;rintro v H' ⟨rfl,rfl⟩;refine⟨?_,aO.push _ _⟩;rw[a];rfl
def EJ{H:ad}{s:aC}(ax:s.length<=1000000000000000000)(l:aa->aa->ad->O)(N:Nat)(Q:aa->ad->Prop):∀(rest:aC) (at_ m:Nat),s.drop at_=rest->at_<=s.length->rest.length<m->
  (∀(k:Nat),(∀c' cx,rest=c'::cx->c'.toNat≠10->0<k)->at_+k<=s.length->(s.drop (at_+k)).length<=rest.length->k+cG U (s.drop (at_+k))=cG X rest->W (l (Z s) (I J ((at_+k:Nat):Int)) H) Q)->
  W (lS (aD P ay) N l m (Z s) (I J at_) H) Q
 |_,_,0,_,_,hm,_=>af
 |[],at_,m+1,h,n,hm,j=>by
  have:=drop_nil h;have a:¬((at_:Int)<(s.length:Int)):=af;simp-implicitDefEqProofs(disch:=try exact aj)only[lS,hI,p8,ig,reduceAdd,reduceLeDiff,reduceIte,aw,a,decide_false];exact j 0 (λ_ _ e=>by cases e) n (by simpa using congrArg List.length h) (by simp[h,cG])
 |c::r,at_,m+1,h,n,hm,j=>by
  obtain⟨an,aE,bn,b8⟩:=drop_cons h;have a:((at_:Int)<(s.length:Int)):=af;have o:=j8 an;cases d:((c.toNat:Int) != 10)with
  |false=>
   have i:c.toNat=10:=by
    have:(c.toNat:Int)=10:=by simpa using d
    omega
   simp-implicitDefEqProofs(disch:=try exact aj)only[lS,hI,p8,ig,reduceAdd,reduceLeDiff,reduceIte,aw,a,decide_true,o,d];refine j 0 (λ_ _ e v=>by cases e;exact absurd i v) n (by simp only[Nat.add_zero,h];omega) ?_;simp[h,cG,hC,i]
  |true=>
   have i:(c.toNat==10)=false:=by
    have:¬(c.toNat:Int)=10:=by simpa using d
    simp;omega
   simp-implicitDefEqProofs(disch:=try exact aj)only[lS,hI,p8,ig,reduceAdd,reduceLeDiff,reduceIte,aw,a,decide_true,o,d,iv];refine EJ ax l N Q r (at_+1) m aE af (by simp at hm;omega) (λk _ a p q=> ?_);have u:at_+1+k=at_+(k+1):=af;rw[u]at a p q ⊢;refine j (k+1) (λ_ _ _ _=>af) a (by simp only[List.length_cons];omega) ?_;simp only[cG,i,aR];omega
def vr{H:ad}{s:aC}(ax:s.length<=1000000000000000000)(N:Nat)(Q:s.length<N):∀(q:Nat) (rest:aC) (at_ m:Nat),rest.length<=q->s.drop at_=rest->at_<=s.length->rest.length<m->
  W (hZ (aD P ay) N m (Z s) (I J at_) H) λv H'=>v= I J ((at_+cG U rest:Nat):Int)/\H'=H
 |_,_,_,0,_,_,_,hm=>af
 |_,[],at_,m+1,_,h,L,hm=>by
  have:=drop_nil h;have j:¬((at_:Int)<(s.length:Int)):=af;simp-implicitDefEqProofs(disch:=try exact aj)only[hZ,hI,kj,ig,reduceAdd,reduceLeDiff,reduceIte,aw,j,decide_false];exact ba.2 ⟨by simp[cG],rfl⟩
 |0,c::r,at_,m+1,B,h,L,hm=>by simp at B
 |q+1,c::r,at_,m+1,B,h,L,hm=>by
  obtain⟨an,aE,bn,b8⟩:=drop_cons h;have j:((at_:Int)<(s.length:Int)):=af;have o:=j8 an;simp only[List.length_cons]at B hm;have F:hC c=X->W (hZ (aD P ay) N m (Z s) (I J ((at_+1:Nat):Int)) H) λv H'=>v= I J ((at_+cG U (c::r):Nat):Int)/\H'=H:=by
   intro M;refine(vr (H:=H) ax N Q q r (at_+1) m af aE af af).mono ?_;rintro v H' ⟨rfl,e⟩;have S:at_+1+cG U r=at_+cG U (c::r):=by
    rw[cG,M,aW];omega
   exact⟨by rw[S],e⟩
  have p:((c.toNat:Int)==32)=(c.toNat==32):=by rw[Bool.eq_iff_iff];simp;omega
  have x:((c.toNat:Int)==9)=(c.toNat==9):=by rw[Bool.eq_iff_iff];simp;omega
  have A:((c.toNat:Int)==10)=(c.toNat==10):=by rw[Bool.eq_iff_iff];simp;omega
  have G:((c.toNat:Int)==13)=(c.toNat==13):=by rw[Bool.eq_iff_iff];simp;omega
  cases i:c.toNat==32 with
  |true=>
   simp-implicitDefEqProofs(disch:=try exact aj)only[hZ,hI,kj,ig,reduceAdd,reduceLeDiff,reduceIte,aw,j,decide_true,o,p,i,iv];exact F (by simp only[hC,i,Bool.true_or])
  |false=>
   cases l:c.toNat==9 with
   |true=>
    simp-implicitDefEqProofs(disch:=try exact aj)only[hZ,hI,kj,ig,reduceAdd,reduceLeDiff,reduceIte,aw,j,decide_true,o,p,i,x,l,iv];exact F (by simp only[hC,l,Bool.true_or,Bool.or_true])
   |false=>
    cases n:c.toNat==10 with
    |true=>
     simp-implicitDefEqProofs(disch:=try exact aj)only[hZ,hI,kj,ig,reduceAdd,reduceLeDiff,reduceIte,aw,j,decide_true,o,p,i,x,l,A,n,iv];exact F (by simp only[hC,n,Bool.true_or,Bool.or_true])
    |false=>
     cases u:c.toNat==13 with
     |true=>
      simp-implicitDefEqProofs(disch:=try exact aj)only[hZ,hI,kj,ig,reduceAdd,reduceLeDiff,reduceIte,aw,j,decide_true,o,p,i,x,l,A,n,G,u,iv];exact F (by simp only[hC,u,Bool.or_true])
     |false=>
      have V:hC c=false:=by simp only[hC,i,l,n,u,Bool.or_self]
      have O:IntKind.i64.wrap ((s.length:Int)-(at_:Int))=((s.length-at_:Nat):Int):=G4 s.length at_ af af;have R:(c==47&&r.head?==D 47)=U->cG U (c::r)=0:=λz=>by rw[cG,V,aR,z,aR]
      by_cases K:(2:Int)<=((s.length-at_:Nat):Int)
      ·have E:=sf (s:=s) (a:=at_) (b:=at_+2) af af;rw[Nat.add_sub_cancel_left,h]at E;obtain⟨y,d,rfl⟩:∃y d,r=y::d:=by
        cases r with
        |nil=>simp at b8;omega
        |cons y d=>exact⟨y,d,rfl⟩
       simp only[List.take_succ_cons,List.take_zero]at E;cases w:(([c,y]:aC)==[47,47])with
       |true=>
        have T:c=47/\y=47:=by simpa using w
        obtain⟨rfl,rfl⟩:=T;simp-implicitDefEqProofs(disch:=try exact aj)only[hZ,hI,kj,ig,reduceAdd,reduceLeDiff,reduceIte,aw,j,decide_true,o,p,i,x,l,A,n,G,u,O,K,uO,E,w];refine EJ ax (hZ (aD P ay) N m) N _ (47::47::d) at_ N h L (by simp only[List.length_cons]at b8 ⊢;omega) (λk aa ab ag ae=> ?_);have ah:=aa 47 _ rfl bf;have hle:(s.drop (at_+k)).length<=q:=by
         simp only[List.length_drop,List.length_cons]at B b8 ⊢;omega
        refine(vr (H:=H) ax N Q q (s.drop (at_+k)) (at_+k) m hle rfl ab (by simp only[List.length_drop,List.length_cons]at hm b8 ⊢;omega)).mono ?_;rintro v H' ⟨rfl,e⟩;have M:cG U (47::47::d)=cG X (47::47::d):=by
         have an:cG U (47::47::d)=cG X (47::d)+1:=rfl;have aE:cG X (47::47::d)=cG X (47::d)+1:=rfl;rw[an,aE]
        refine⟨?_,e⟩;rw[M,<-ae,Nat.add_assoc]
       |false=>
        have z:(c==47&&(y::d).head?==D 47)=false:=by
         have:¬(c=47/\y=47):=by simpa using w
         simpa using this
        simp-implicitDefEqProofs(disch:=try exact aj)only[hZ,hI,kj,ig,reduceAdd,reduceLeDiff,reduceIte,aw,j,decide_true,o,p,i,x,l,A,n,G,u,O,K,uO,E,w];exact ba.2 ⟨by rw[R z,Nat.add_zero],rfl⟩
      ·have w:r=[]:=by
        cases r with
        |nil=>rfl
        |cons y d=>simp only[List.length_cons]at b8;omega
       have z:(c==47&&r.head?==D 47)=false:=by rw[w];simp
       simp-implicitDefEqProofs(disch:=try exact aj)only[hZ,hI,kj,ig,reduceAdd,reduceLeDiff,reduceIte,aw,j,decide_true,o,p,i,x,l,A,n,G,u,O,K,decide_false];exact ba.2 ⟨by rw[R z,Nat.add_zero],rfl⟩
def zw{H:ad}{s:aC}(ax:s.length<=1000000000000000000){at_:Nat}(a:at_<=s.length):W (aD P ay 38 [Z s,I J at_] H) λv H'=>v= I J ((at_+cG U (s.drop at_):Nat):Int)/\H'=H:=by
 refine cF (λ_=>Ml (s.length+1)) ?_;rw[ig];exact vr ax (s.length+1) af s.length (s.drop at_) at_ (s.length+1) (by simp) rfl a (by simp;omega)
