/-
  Texts of one proof, laid together: ShA Ls Sp X1 Lx L1 L2.
-/
import Derived.Test.YtghmbpmaafnodaaDoorME
set_option linter.unusedVariables false
set_option linter.unusedSimpArgs false
set_option linter.defProp false
open Option renaming some→D,none→Z
open Bool renaming true→X,false→U
open Go.b9.aa renaming int→I,str→Y,bool→C
open Go.IntKind renaming i64→J
namespace Go.Proofs.YtghmbpmaafnodaaDoor
open Go.b9
open Nat (reduceAdd reduceLeDiff)
section
set_option maxRecDepth 100000
noncomputable section
def i_(G:az)(N:Nat)(ag e i:aa)(H:ad):O:=bg P .len [9] [ag] H λh=>j (ch P 61 [(0,(I J 0)),(3,h)]) λk=>bS H (bV P (H).next 36 1 [(0,k)]) λl a=>aH a (cQ P a [36,36] i l) λm c=>a7 c (aV P c 29 e (.agg [I J 0,I J 0])) λd=>j (an P d 29 e) λr=>D (.tuple [m,r],d)
def Kv(G:az)(N:Nat):∀ae H,bp P G N (ak (ak (ak (ak (ak (bs Tryd.f14)))))) (bk Tryd.f14) [] (bk Tryd.f14) ae H=i_ G N (ae 0) (ae 3) (ae 4) H:=by
 refine bL (aJ _) λae H=> ?_
 delta i_;kernel_rfl
def kd(a:aa->aa->aa->aa->ad->O)(ag d:aa)(e h:aa)(c:ad):O:=a ag d e h c
def kV(G:az)(N:Nat)(n:aa->aa->aa->aa->ad->O)(ag d:aa)(m e:aa)(H:ad):O:=bg P .len [9] [ag] H λbx=>j (aq P .lss 3 U e bx) λp=>aW (D p) (aH H (G 39 [ag,e] H) λk o=>j (eg k 0) λq=>j (eg k 1) λl=>cf o [I J 0,Y [],I J 0,I J 0] λbo h=>a7 h (aV P h 61 bo q) λa=>j (aq P .eql 3 X l (I J 0)) λs=>aW (D s) (j (ch P 29 [(0,(I J 1)),(1,e)]) λu=>a7 a (aV P a 29 d u) λc=>j (an P c 29 d) λr=>D (.tuple [aa.ar,r],c)) (j (an P a 61 bo) λv=>bS a (bV P (a).next 36 1 [(0,v)]) λw c=>aH c (cQ P c [36,36] m w) λx i=>j (aq P .add 3 U e l) λy=>aH i (G 38 [ag,y] i) (kd n ag d x))) (i_ G N ag d m H)
def lP(G:az)(N:Nat):Nat->aa->aa->aa->aa->ad->O
 |0,_,_,_,_,_=>Z
 |n+1,ag,a,c,d,H=>kV G N (lP G N n) ag a c d H
def Ku(G:az)(N:Nat)(c:aa->aa->aa->aa->ad->O):∀ae H,bp P G N (a6 (a6 (a6 (ak (ak (ak (ak (bs Tryd.f14)))))))) (λae H=>c (ae 0) (ae 3) (ae 4) (ae 5) H) [(0,(λae H=>i_ G N (ae 0) (ae 3) (ae 4) H))] (bk Tryd.f14) ae H=kV G N c (ae 0) (ae 3) (ae 4) (ae 5) H:=by
 refine bL (aJ _) λae H=> ?_
 delta kV kd;generalize i_ G N=a;revert a;refine id ?_;intro a;kernel_rfl
def ke(G:az)(N:Nat)(ag d c:aa)(a:ad):O:=lP G N N ag d aa.ar c a
def kc(G:az)(N:Nat)(ag:aa)(H:ad):O:=cf H [I J 0,I J 0] λc a=>bg P .len [9] [ag] a λh=>j (aq P .gtr 3 X h (I J 6000)) λe=>aW (D e) (a7 a (aV P a 29 c (.agg [I J 4,I J 0])) λd=>j (an P d 29 c) λr=>D (.tuple [aa.ar,r],d)) (aH a (G 38 [ag,I J 0] a) (ke G N ag c))
def Jp(N:Nat){ag:aa}{H:ad}{r:aa×ad}(h:kc (aC P ay) N ag H=D r):aC P ay 14 [ag] H=D r:=cO N (S:=λG=>kc G N ag H) Tryd.func14 (λG=>dN ((aP ah ((aP ah ((aP ah ((aP ah ((aP ah (Kv G N) ((dc ah ((ei (k:=λm ae H=>lP G N m (ae 0) (ae 3) (ae 4) (ae 5) H) ah (λae H=>ah) (λm=>Ku G N (lP G N m)))))))) (aJ _))) (aJ _))) (aJ _))) (aJ _))) (by delta kc ke;generalize lP G N N=a;revert a;refine id ?_;intro a;kernel_rfl)) h
def g_(G:az)(N:Nat)(aw:aa)(H:ad):O:=some (aw,H)
def KU(G:az)(N:Nat):∀ae H,bp P G N (ak (ak (bs Tryd.f38))) (bk Tryd.f38) [] (bk Tryd.f38) ae H=g_ G N (ae 1) H:=by
 refine bL (aJ _) λae H=> ?_
 delta g_;kernel_rfl
def oT(G:az)(N:Nat)(d:aa->aa->ad->O)(e:aa->aa->ad->O)(ag aw:aa)(H:ad):O:=bg P .len [9] [ag] H λl=>j (aq P .lss 3 U aw l) λa=>aQ a X H (ca ag) λm h=>aQ a X h (ca aw) λn i=>aQ a X i (bz (eE P 9 m n)) λo k=>aQ a X k (bz (aq P .neq 5 X o (I .u8 10))) λp c=>j (cD a (D p) (D (C U))) λq=>aW (D q) (j (aq P .add 3 X aw (I J 1)) λs=>e ag s c) (d ag aw c)
def k1(G:az)(N:Nat)(a:aa->aa->ad->O):Nat->aa->aa->ad->O
 |0,_,_,_=>Z
 |n+1,ag,aw,H=>oT G N a (k1 G N a n) ag aw H
def KT(G:az)(N:Nat)(a:aa->aa->ad->O)(d:aa->aa->ad->O):∀ae H,bp P G N (a6 (a6 (a6 (ak (ak (ak (a6 (a6 (ak (a6 (a6 (a6 (ak (bs Tryd.f38)))))))))))))) (λae H=>d (ae 0) (ae 1) H) [(3,(λae H=>a (ae 0) (ae 1) H)),(2,(λae H=>a (ae 0) (ae 1) H)),(1,(λae H=>a (ae 0) (ae 1) H)),(0,(λae H=>g_ G N (ae 1) H))] (bk Tryd.f38) ae H=oT G N a d (ae 0) (ae 1) H:=by
 refine bL (aJ _) λae H=> ?_
 delta oT;generalize a=c;revert c;refine id ?_;intro c;kernel_rfl
def jK(G:az)(N:Nat)(i:aa->aa->ad->O)(ag aw:aa)(H:ad):O:=bg P .len [9] [ag] H λav=>j (aq P .lss 3 U aw av) λax=>aW (D ax) (j (eE P 9 ag aw) λF=>j (aq P .eql 5 X F (I .u8 32)) λc=>aQ c U H (ca ag) λbx l=>aQ c U l (ca aw) λK v=>aQ c U v (bz (eE P 9 bx K)) λL w=>aQ c U w (bz (aq P .eql 5 X L (I .u8 9))) λM x=>j (cD c (D (C X)) (D M)) λd=>aQ d U x (ca ag) λQ y=>aQ d U y (ca aw) λR z=>aQ d U z (bz (eE P 9 Q R)) λS A=>aQ d U A (bz (aq P .eql 5 X S (I .u8 10))) λT B=>j (cD d (D (C X)) (D T)) λe=>aQ e U B (ca ag) λV E=>aQ e U E (ca aw) λW m=>aQ e U m (bz (eE P 9 V W)) λab n=>aQ e U n (bz (aq P .eql 5 X ab (I .u8 13))) λae h=>j (cD e (D (C X)) (D ae)) λaf=>aW (D af) (j (aq P .add 3 X aw (I J 1)) λah=>i ag ah h) (bg P .len [9] [ag] h λai=>j (aq P .sub 3 U ai aw) λaj=>j (aq P .geq 3 X aj (I J 2)) λa=>aQ a X h (ca ag) λak o=>aQ a X o (ca aw) λal p=>aQ a X p (ca aw) λam q=>aQ a X q (bz (aq P .add 3 X am (I J 2))) λan s=>aQ a X s (bz (js P 9 ak (D al) (D an) Z)) λao u=>aQ a X u (bz (aq P .eql 9 X ao (Y [47,47]))) λap k=>j (cD a (D ap) (D (C U))) λau=>aW (D au) (k1 G N i N ag aw k) (D (aw,k)))) (g_ G N aw H)
def hx(G:az)(N:Nat):Nat->aa->aa->ad->O
 |0,_,_,_=>Z
 |n+1,ag,aw,H=>jK G N (hx G N n) ag aw H
def KS(G:az)(N:Nat)(a:aa->aa->ad->O):∀ae H,bp P G N (a6 (a6 (a6 (ak (bs Tryd.f38))))) (λae H=>a (ae 0) (ae 1) H) [(0,(λae H=>g_ G N (ae 1) H))] (bk Tryd.f38) ae H=jK G N a (ae 0) (ae 1) H:=by
 refine bL ((aP ah ((dc ah ((dc ah ((aP ah ((dt ah (aJ _) ((aP ah ((dt ah ((dc ah ((ei (k:=λm ae H=>k1 G N a m (ae 0) (ae 1) H) ah (λae H=>ah) (λm=>KT G N a (k1 G N a m)))))) (aJ _))) (aJ _))))) (aJ _))))))) (aJ _))) λae H=> ?_
 delta jK;generalize g_ G N=c;generalize k1 G N a N=d;revert c d;refine id ?_;intro c d;kernel_rfl
def hP(G:az)(N:Nat)(ag aw:aa)(H:ad):O:=hx G N N ag aw H
def JF(N:Nat){ag aw:aa}{H:ad}{r:aa×ad}(h:hP (aC P ay) N ag aw H=D r):aC P ay 38 [ag,aw] H=D r:=cO N (S:=λG=>hP G N ag aw H) Tryd.func38 (λG=>dN ((aP ah ((aP ah (KU G N) ((dc ah ((ei (k:=λm ae H=>hx G N m (ae 0) (ae 1) H) ah (λae H=>ah) (λm=>KS G N (hx G N m)))))))) (aJ _))) (by delta hP;generalize hx G N N=a;revert a;refine id ?_;intro a;kernel_rfl)) h
def eS(G:az)(ag aw:aa)(H:ad):O:=cf H [I J 0,Y [],I J 0,I J 0] λc y=>j (eE P 9 ag aw) λal=>aH y (G 62 [al] y) λbx p=>aW (D bx) (aH p (G 63 [ag,aw,C U] p) λw h=>j (aq P .add 3 U aw w) λam=>j (js P 9 ag (D aw) (D am) Z) λu=>aH h (G 64 [u] h) λao d=>aW (D ao) (j (ch P 61 [(0,(I J 3)),(1,u),(3,aw)]) λap=>a7 d (aV P d 61 c ap) λa=>j (an P a 61 c) λr=>D (.tuple [r,w],a)) (aH d (G 65 [u] d) λau a=>aW (D au) (j (ch P 61 [(0,(I J 1)),(1,u),(3,aw)]) λav=>a7 a (aV P a 61 c av) λi=>j (an P i 61 c) λr=>D (.tuple [r,w],i)) (a7 a (aV P a 61 c (.agg [I J 0,Y [],I J 0,I J 0])) λi=>j (an P i 61 c) λr=>D (.tuple [r,I J 0],i)))) (j (eE P 9 ag aw) λax=>aH p (G 66 [ax] p) λay h=>aW (D ay) (aH h (G 63 [ag,aw,C X] h) λm d=>j (aq P .add 3 U aw m) λaB=>j (js P 9 ag (D aw) (D aB) Z) λaC=>aH d (G 67 [aC] d) λA a=>j (eg A 0) λaD=>j (eg A 1) λaE=>j (ff .not aE) λn=>aQ n U a (ca m) λaF i=>aQ n U i (bz (aq P .gtr 3 X aF (I J 1))) λaG ah=>aQ n U ah (ca aG) λo ai=>aQ o X ai (ca ag) λaI aj=>aQ o X aj (ca aw) λaJ E=>aQ o X E (bz (eE P 9 aI aJ)) λaK F=>aQ o X F (bz (aq P .eql 5 X aK (I .u8 48))) λaL K=>aQ n U K (bz (cD o (D aL) (D (C U)))) λaM L=>j (cD n (D (C X)) (D aM)) λe=>aQ e U L (ca aw) λaN M=>aQ e U M (ca m) λaO N=>aQ e U N (bz (aq P .add 3 U aN aO)) λaP Q=>aQ e U Q (ca ag) λB z=>aQ e U z (λq=>gj (bZ P .empty .len [9] [B]) (bZ P z .len [9] [B]) q) λaR R=>aQ e U R (bz (aq P .lss 3 U aP aR)) λaS S=>aQ e U S (ca aS) λk T=>aQ k X T (ca ag) λaT V=>aQ k X V (ca aw) λaU W=>aQ k X W (ca m) λaX ab=>aQ k X ab (bz (aq P .add 3 U aU aX)) λaY ae=>aQ k X ae (bz (eE P 9 aT aY)) λaZ v=>aQ k X v (λq=>eL v (G 62 [aZ] v) q) λa0 af=>aQ e U af (bz (cD k (D a0) (D (C U)))) λa1 s=>j (cD e (D (C X)) (D a1)) λa2=>aW (D a2) (a7 s (aV P s 61 c (.agg [I J 0,Y [],I J 0,I J 0])) λl=>j (an P l 61 c) λr=>D (.tuple [r,I J 0],l)) (j (ch P 61 [(0,(I J 2)),(2,aD),(3,aw)]) λa3=>a7 s (aV P s 61 c a3) λl=>j (an P l 61 c) λr=>D (.tuple [r,m],l))) (aH h (G 68 [ag,aw] h) λx d=>j (aq P .eql 9 X x (Y [])) λa4=>aW (D a4) (a7 d (aV P d 61 c (.agg [I J 0,Y [],I J 0,I J 0])) λa=>j (an P a 61 c) λr=>D (.tuple [r,I J 0],a)) (j (ch P 61 [(0,(I J 4)),(1,x),(3,aw)]) λa5=>bg P .len [9] [x] d λak=>a7 d (aV P d 61 c a5) λa=>j (an P a 61 c) λr=>D (.tuple [r,ak],a))))
def JG(N:Nat){ag aw:aa}{H:ad}{r:aa×ad}(h:eS (aC P ay) ag aw H=D r):aC P ay 39 [ag,aw] H=D r:=cO N (S:=λG=>eS G ag aw H) Tryd.func39 (λ_=>by delta eS;kernel_rfl) h
def sK(G:az)(ag:aa)(H:ad):O:=j (aq P .geq 5 X ag (I .u8 97)) λd=>aQ d X H (ca ag) λbo e=>aQ d X e (bz (aq P .leq 5 X bo (I .u8 122))) λw h=>j (cD d (D w) (D (C U))) λa=>aQ a U h (ca ag) λp i=>aQ a U i (bz (aq P .geq 5 X p (I .u8 65))) λq k=>aQ a U k (ca q) λc l=>aQ c X l (ca ag) λs m=>aQ c X m (bz (aq P .leq 5 X s (I .u8 90))) λu n=>aQ a U n (bz (cD c (D u) (D (C U)))) λv o=>j (cD a (D (C X)) (D v)) λbx=>D (bx,o)
def JW(N:Nat){ag:aa}{H:ad}{r:aa×ad}(h:sK (aC P ay) ag H=D r):aC P ay 62 [ag] H=D r:=cO N (S:=λG=>sK G ag H) Tryd.func62 (λ_=>by delta sK;kernel_rfl) h
def ja(G:az)(N:Nat)(a:aa)(H:ad):O:=some (a,H)
def Lo(G:az)(N:Nat):∀ae H,bp P G N (ak (ak (ak (bs Tryd.f63)))) (bk Tryd.f63) [] (bk Tryd.f63) ae H=ja G N (ae 7) H:=by
 refine bL (aJ _) λae H=> ?_
 delta ja;kernel_rfl
def kj(G:az)(N:Nat)(m:aa->aa->aa->aa->ad->O)(ag aw:aa)(l e:aa)(H:ad):O:=j (aq P .add 3 U aw e) λL=>bg P .len [9] [ag] H λM=>j (aq P .lss 3 U L M) λa=>aQ a X H (ca ag) λQ n=>aQ a X n (ca aw) λbx y=>aQ a X y (ca e) λR z=>aQ a X z (bz (aq P .add 3 U bx R)) λS A=>aQ a X A (bz (eE P 9 Q S)) λT i=>aQ a X i (λq=>eL i (G 66 [T] i) q) λV B=>aQ a X B (ca V) λd E=>aQ d U E (ca l) λW F=>aQ d U F (bz (ff .not W)) λab K=>aQ d U K (ca ab) λc o=>aQ c X o (ca ag) λae p=>aQ c X p (ca aw) λaf s=>aQ c X s (ca e) λah u=>aQ c X u (bz (aq P .add 3 U af ah)) λai v=>aQ c X v (bz (eE P 9 ae ai)) λaj h=>aQ c X h (λq=>eL h (G 62 [aj] h) q) λak w=>aQ d U w (bz (cD c (D ak) (D (C U)))) λal x=>aQ a X x (bz (cD d (D (C X)) (D al))) λam k=>j (cD a (D am) (D (C U))) λan=>aW (D an) (j (aq P .add 3 X e (I J 1)) λao=>m ag aw l ao k) (ja G N e k)
def k4(G:az)(N:Nat):Nat->aa->aa->aa->aa->ad->O
 |0,_,_,_,_,_=>Z
 |n+1,ag,aw,a,c,H=>kj G N (k4 G N n) ag aw a c H
def Ln(G:az)(N:Nat)(c:aa->aa->aa->aa->ad->O):∀ae H,bp P G N (a6 (a6 (a6 (ak (ak (bs Tryd.f63)))))) (λae H=>c (ae 0) (ae 1) (ae 2) (ae 7) H) [(0,(λae H=>ja G N (ae 7) H))] (bk Tryd.f63) ae H=kj G N c (ae 0) (ae 1) (ae 2) (ae 7) H:=by
 refine bL (aJ _) λae H=> ?_
 delta kj;generalize ja G N=a;revert a;refine id ?_;intro a;kernel_rfl
def jL(G:az)(N:Nat)(ag aw a:aa)(H:ad):O:=k4 G N N ag aw a (I J 0) H
def JX(N:Nat){ag aw a:aa}{H:ad}{r:aa×ad}(h:jL (aC P ay) N ag aw a H=D r):aC P ay 63 [ag,aw,a] H=D r:=cO N (S:=λG=>jL G N ag aw a H) Tryd.func63 (λG=>dN ((aP ah ((aP ah ((aP ah (Lo G N) ((dc ah ((ei (k:=λm ae H=>k4 G N m (ae 0) (ae 1) (ae 2) (ae 7) H) ah (λae H=>ah) (λm=>Ln G N (k4 G N m)))))))) (aJ _))) (aJ _))) (by delta jL;generalize k4 G N N=c;revert c;refine id ?_;intro c;kernel_rfl)) h
def k5(G:az)(N:Nat)(H:ad):O:=some ((C U),H)
def Lq(G:az)(N:Nat):∀ae H,bp P G N (ak (ak (ak (bs Tryd.f64)))) (bk Tryd.f64) [] (bk Tryd.f64) ae H=k5 G N H:=by
 refine bL (aJ _) λae H=> ?_
 delta k5;kernel_rfl
def nA(G:az)(N:Nat)(d:aa->aa->aa->ad->O)(ag a c:aa)(H:ad):O:=bg P .len [50] [a] H λl=>j (aq P .lss 3 U c l) λm=>aW (D m) (j (cB P 50 a c) λh=>j (an P H 9 h) λi=>j (aq P .eql 9 U i ag) λk=>aW (D k) (D ((C X),H)) (j (aq P .add 3 X c (I J 1)) λe=>d ag a e H)) (k5 G N H)
def l2(G:az)(N:Nat):Nat->aa->aa->aa->ad->O
 |0,_,_,_,_=>Z
 |n+1,ag,a,c,H=>nA G N (l2 G N n) ag a c H
def Lp(G:az)(N:Nat)(c:aa->aa->aa->ad->O):∀ae H,bp P G N (a6 (a6 (ak (a6 (ak (ak (bs Tryd.f64))))))) (λae H=>c (ae 0) (ae 3) (ae 4) H) [(0,(λae H=>k5 G N H))] (bk Tryd.f64) ae H=nA G N c (ae 0) (ae 3) (ae 4) H:=by
 refine bL (aJ _) λae H=> ?_
 delta nA;generalize k5 G N=a;revert a;refine id ?_;intro a;kernel_rfl
def nz(G:az)(N:Nat)(ag c:aa)(a:ad):O:=l2 G N N ag c (I J 0) a
def l1(G:az)(N:Nat)(ag:aa)(H:ad):O:=aH H (G 81 [] H) (nz G N ag)
def JY(N:Nat){ag:aa}{H:ad}{r:aa×ad}(h:l1 (aC P ay) N ag H=D r):aC P ay 64 [ag] H=D r:=cO N (S:=λG=>l1 G N ag H) Tryd.func64 (λG=>dN ((aP ah ((aP ah ((aP ah (Lq G N) ((aP ah ((dc ah ((ei (k:=λm ae H=>l2 G N m (ae 0) (ae 3) (ae 4) H) ah (λae H=>ah) (λm=>Lp G N (l2 G N m)))))) (aJ _))))) (aJ _))) (aJ _))) (by delta l1 nz;generalize l2 G N N=a;revert a;refine id ?_;intro a;kernel_rfl)) h
def gN(G:az)(N:Nat)(H:ad):O:=some ((C X),H)
def Ls(G:az)(N:Nat):∀ae H,bp P G N (ak (ak (ak (bs Tryd.f65)))) (bk Tryd.f65) [] (bk Tryd.f65) ae H=gN G N H:=by
 refine bL (aJ _) λae H=> ?_
 delta gN;kernel_rfl
def hU(G:az)(N:Nat)(h:aa->aa->ad->O)(ag c:aa)(H:ad):O:=bg P .len [9] [ag] H λn=>j (aq P .lss 3 U c n) λo=>aW (D o) (j (eE P 9 ag c) λs=>aH H (G 62 [s] H) λu i=>j (ff .not u) λa=>aQ a X i (ca ag) λv k=>aQ a X k (ca c) λw l=>aQ a X l (bz (eE P 9 v w)) λx d=>aQ a X d (λq=>eL d (G 66 [x] d) q) λy m=>aQ a X m (bz (ff .not y)) λz e=>j (cD a (D z) (D (C U))) λA=>aW (D A) (D ((C U),e)) (j (aq P .add 3 X c (I J 1)) λp=>h ag p e)) (gN G N H)
def l3(G:az)(N:Nat):Nat->aa->aa->ad->O
 |0,_,_,_=>Z
 |n+1,ag,a,H=>hU G N (l3 G N n) ag a H
def Lr(G:az)(N:Nat)(c:aa->aa->ad->O):∀ae H,bp P G N (a6 (a6 (ak (a6 (ak (ak (bs Tryd.f65))))))) (λae H=>c (ae 0) (ae 3) H) [(0,(λae H=>gN G N H))] (bk Tryd.f65) ae H=hU G N c (ae 0) (ae 3) H:=by
 refine bL (aJ _) λae H=> ?_
 delta hU;generalize gN G N=a;revert a;refine id ?_;intro a;kernel_rfl
def hy(G:az)(N:Nat)(ag:aa)(H:ad):O:=bg P .len [9] [ag] H λA=>j (aq P .lss 3 X A (I J 1)) λbo=>aQ bo U H (ca ag) λk h=>aQ bo U h (λq=>gj (bZ P .empty .len [9] [k]) (bZ P h .len [9] [k]) q) λB l=>aQ bo U l (bz (aq P .gtr 3 X B (I J 8))) λs m=>j (cD bo (D (C X)) (D s)) λa=>aQ a U m (ca ag) λu n=>aQ a U n (bz (eE P 9 u (I J 0))) λv c=>aQ a U c (λq=>eL c (G 62 [v] c) q) λw o=>aQ a U o (bz (ff .not w)) λbx p=>j (cD a (D (C X)) (D bx)) λe=>aQ e U p (ca ag) λx d=>aQ e U d (λq=>eL d (G 64 [x] d) q) λy i=>j (cD e (D (C X)) (D y)) λz=>aW (D z) (D ((C U),i)) (l3 G N N ag (I J 0) i)
def JZ(N:Nat){ag:aa}{H:ad}{r:aa×ad}(h:hy (aC P ay) N ag H=D r):aC P ay 65 [ag] H=D r:=cO N (S:=λG=>hy G N ag H) Tryd.func65 (λG=>dN ((aP ah ((aP ah ((aP ah (Ls G N) ((aP ah ((dc ah ((ei (k:=λm ae H=>l3 G N m (ae 0) (ae 3) H) ah (λae H=>ah) (λm=>Lr G N (l3 G N m)))))) (aJ _))))) (aJ _))) (aJ _))) (by delta hy;generalize l3 G N N=a;revert a;refine id ?_;intro a;kernel_rfl)) h
def sL(G:az)(ag:aa)(H:ad):O:=j (aq P .geq 5 X ag (I .u8 48)) λa=>aQ a X H (ca ag) λbo c=>aQ a X c (bz (aq P .leq 5 X bo (I .u8 57))) λe d=>j (cD a (D e) (D (C U))) λh=>D (h,d)
def J0(N:Nat){ag:aa}{H:ad}{r:aa×ad}(h:sL (aC P ay) ag H=D r):aC P ay 66 [ag] H=D r:=cO N (S:=λG=>sL G ag H) Tryd.func66 (λ_=>by delta sL;kernel_rfl) h
def l4(G:az)(N:Nat)(a:aa)(H:ad):O:=some (.tuple [a,C X],H)
def Lu(G:az)(N:Nat):∀ae H,bp P G N (ak (ak (ak (bs Tryd.f67)))) (bk Tryd.f67) [] (bk Tryd.f67) ae H=l4 G N (ae 4) H:=by
 refine bL (aJ _) λae H=> ?_
 delta l4;kernel_rfl
def o3(G:az)(N:Nat)(e:aa->aa->aa->ad->O)(ag a c:aa)(H:ad):O:=bg P .len [9] [ag] H λq=>j (aq P .lss 3 U c q) λh=>aW (D h) (j (eE P 9 ag c) λk=>j (aq P .sub 5 X k (I .u8 48)) λbx=>pk P 5 3 bx H λd=>j (aq P .sub 3 X (I J 9223372036854775807) d) λl=>j (aq P .quo 3 X l (I J 10)) λm=>j (aq P .gtr 3 U a m) λn=>aW (D n) (D (.tuple [I J 0,C U],H)) (j (aq P .mul 3 X (I J 10) a) λo=>j (aq P .add 3 U o d) λp=>j (aq P .add 3 X c (I J 1)) λi=>e ag p i H)) (l4 G N a H)
def k6(G:az)(N:Nat):Nat->aa->aa->aa->ad->O
 |0,_,_,_,_=>Z
 |n+1,ag,a,c,H=>o3 G N (k6 G N n) ag a c H
def Lt(G:az)(N:Nat)(c:aa->aa->aa->ad->O):∀ae H,bp P G N (a6 (a6 (ak (a6 (ak (ak (bs Tryd.f67))))))) (λae H=>c (ae 0) (ae 4) (ae 5) H) [(0,(λae H=>l4 G N (ae 4) H))] (bk Tryd.f67) ae H=o3 G N c (ae 0) (ae 4) (ae 5) H:=by
 refine bL (aJ _) λae H=> ?_
 delta o3;generalize l4 G N=a;revert a;refine id ?_;intro a;kernel_rfl
def nB(G:az)(N:Nat)(ag:aa)(H:ad):O:=k6 G N N ag (I J 0) (I J 0) H
def J1(N:Nat){ag:aa}{H:ad}{r:aa×ad}(h:nB (aC P ay) N ag H=D r):aC P ay 67 [ag] H=D r:=cO N (S:=λG=>nB G N ag H) Tryd.func67 (λG=>dN ((aP ah ((aP ah ((aP ah (Lu G N) ((aP ah ((dc ah ((ei (k:=λm ae H=>k6 G N m (ae 0) (ae 4) (ae 5) H) ah (λae H=>ah) (λm=>Lt G N (k6 G N m)))))) (aJ _))))) (aJ _))) (aJ _))) (by delta nB;generalize k6 G N N=a;revert a;refine id ?_;intro a;kernel_rfl)) h
def jb(G:az)(N:Nat)(H:ad):O:=some ((Y []),H)
def Ly(G:az)(N:Nat):∀ae H,bp P G N (ak (ak (ak (ak (ak (bs Tryd.f68)))))) (bk Tryd.f68) [] (bk Tryd.f68) ae H=jb G N H:=by
 refine bL (aJ _) λae H=> ?_
 delta jb;kernel_rfl
def o4(G:az)(N:Nat)(d:aa->aa->aa->aa->ad->O)(ag aw:aa)(c a:aa)(H:ad):O:=bg P .len [9] [c] H λe=>j (aq P .lss 3 U a e) λh=>aW (D h) (j (eE P 9 ag aw) λk=>j (eE P 9 c a) λl=>j (aq P .eql 5 U k l) λm=>aW (D m) (j (aq P .add 3 X a (I J 1)) λn=>j (js P 9 c (D a) (D n) Z) λo=>D (o,H)) (j (aq P .add 3 X a (I J 1)) λi=>d ag aw c i H)) (jb G N H)
def k7(G:az)(N:Nat):Nat->aa->aa->aa->aa->ad->O
 |0,_,_,_,_,_=>Z
 |n+1,ag,aw,a,c,H=>o4 G N (k7 G N n) ag aw a c H
def Lv(G:az)(N:Nat)(c:aa->aa->aa->aa->ad->O):∀ae H,bp P G N (a6 (a6 (ak (a6 (ak (ak (ak (ak (bs Tryd.f68))))))))) (λae H=>c (ae 0) (ae 1) (ae 7) (ae 8) H) [(2,(λae H=>jb G N H))] (bk Tryd.f68) ae H=o4 G N c (ae 0) (ae 1) (ae 7) (ae 8) H:=by
 refine bL (aJ _) λae H=> ?_
 delta o4;generalize jb G N=a;revert a;refine id ?_;intro a;kernel_rfl
def kn(G:az)(N:Nat)(ag aw:aa)(H:ad):O:=k7 G N N ag aw (Y [123,125,40,41,91,93,59,58,44,46,61,43,45,42,47,37,60,33]) (I J 0) H
def Lx(G:az)(N:Nat):∀ae H,bp P G N (ak (ak (ak (bs Tryd.f68)))) (bk Tryd.f68) [] (bk Tryd.f68) ae H=kn G N (ae 0) (ae 1) H:=by
 refine bL ((aP ah ((aP ah (Ly G N) ((aP ah ((dc ah ((ei (k:=λm ae H=>k7 G N m (ae 0) (ae 1) (ae 7) (ae 8) H) ah (λae H=>ah) (λm=>Lv G N (k7 G N m)))))) (aJ _))))) (aJ _))) λae H=> ?_
 delta kn;generalize k7 G N N=a;revert a;refine id ?_;intro a;kernel_rfl
def km(G:az)(N:Nat)(h:aa->aa->aa->aa->ad->O)(ag aw:aa)(c bo:aa)(H:ad):O:=bg P .len [50] [c] H λs=>j (aq P .lss 3 U bo s) λu=>aW (D u) (bg P .len [9] [ag] H λw=>j (aq P .sub 3 U w aw) λx=>j (aq P .geq 3 X x (I J 2)) λa=>aQ a X H (ca ag) λy i=>aQ a X i (ca aw) λz k=>aQ a X k (ca aw) λA l=>aQ a X l (bz (aq P .add 3 X A (I J 2))) λB m=>aQ a X m (bz (js P 9 y (D z) (D B) Z)) λE n=>aQ a X n (ca c) λF o=>aQ a X o (ca bo) λK p=>aQ a X p (bz (cB P 50 F K)) λL e=>aQ a X e (qr (an P e 9 L)) λM q=>aQ a X q (bz (aq P .eql 9 U E M)) λQ d=>j (cD a (D Q) (D (C U))) λR=>aW (D R) (j (cB P 50 c bo) λS=>j (an P d 9 S) λT=>D (T,d)) (j (aq P .add 3 X bo (I J 1)) λv=>h ag aw c v d)) (kn G N ag aw H)
def ko(G:az)(N:Nat):Nat->aa->aa->aa->aa->ad->O
 |0,_,_,_,_,_=>Z
 |n+1,ag,aw,a,bo,H=>km G N (ko G N n) ag aw a bo H
def Lw(G:az)(N:Nat)(c:aa->aa->aa->aa->ad->O):∀ae H,bp P G N (a6 (a6 (ak (a6 (ak (ak (bs Tryd.f68))))))) (λae H=>c (ae 0) (ae 1) (ae 5) (ae 6) H) [(0,(λae H=>kn G N (ae 0) (ae 1) H))] (bk Tryd.f68) ae H=km G N c (ae 0) (ae 1) (ae 5) (ae 6) H:=by
 refine bL (aJ _) λae H=> ?_
 delta km;generalize kn G N=a;revert a;refine id ?_;intro a;kernel_rfl
def kk(G:az)(N:Nat)(ag aw c:aa)(a:ad):O:=ko G N N ag aw c (I J 0) a
def jM(G:az)(N:Nat)(ag aw:aa)(H:ad):O:=bS H (D (.aA (H).next 0 5 1 (D 5),.row U 1 [[Y [60,61]],[Y [61,61]],[Y [33,61]],[Y [38,38]],[Y [124,124]]])) (kk G N ag aw)
def J2(N:Nat){ag aw:aa}{H:ad}{r:aa×ad}(h:jM (aC P ay) N ag aw H=D r):aC P ay 68 [ag,aw] H=D r:=cO N (S:=λG=>jM G N ag aw H) Tryd.func68 (λG=>dN ((aP ah ((aP ah ((aP ah (Lx G N) ((aP ah ((dc ah ((ei (k:=λm ae H=>ko G N m (ae 0) (ae 1) (ae 5) (ae 6) H) ah (λae H=>ah) (λm=>Lw G N (ko G N m)))))) (aJ _))))) (aJ _))) (aJ _))) (by delta jM kk;generalize ko G N N=a;revert a;refine id ?_;intro a;kernel_rfl)) h
def vP(aw:aa)(a:ad):O:=some (aw,a)
def sP(G:az)(H:ad):O:=bS H (D (.aA (H).next 0 18 1 (D 18),.row U 1 [[Y [114,101,99,111,114,100]],[Y [103,108,111,98,97,108]],[Y [102,117,110,99]],[Y [118,97,114]],[Y [108,101,116]],[Y [105,102]],[Y [101,108,115,101]],[Y [119,104,105,108,101]],[Y [114,101,116,117,114,110]],[Y [112,114,105,110,116]],[Y [110,117,108,108]],[Y [110,101,119]],[Y [108,101,110]],[Y [114,101,97,100]],[Y [116,114,117,101]],[Y [102,97,108,115,101]],[Y [105,110,116]],[Y [98,111,111,108]]])) (vP)
def J8(N:Nat){H:ad}{r:aa×ad}(h:sP (aC P ay) H=D r):aC P ay 81 [] H=D r:=cO N (S:=λG=>sP G H) Tryd.func81 (λ_=>by delta sP vP;kernel_rfl) h
end
end
section
set_option linter.defProp false
def BU:=aj @ad.bT @ad.dj
def FB:=aj (aj (aj (aj (aj (aj (aj (aj @E3 @EZ) (aj @Cn @Co)) (aj (aj @Cs @EM) (aj @s8 (aj @dG @w_)))) (aj (aj (aj @ek @s6) (aj @ET (aj @EO @ES))) (aj (aj @EP @ER) (aj @EN (aj @Ce @Cd))))) (aj (aj (aj (aj @xk @tg) (aj @wP (aj @wQ @te))) (aj (aj @tf @wM) (aj @wN (aj @td @wO)))) (aj (aj (aj @wL @Option.bind_some.{0,0}) (aj @aZ (aj @aT @w6))) (aj (aj @Cw @vy) (aj @Cv (aj @kP @vx)))))) (aj (aj (aj (aj (aj @Cx @List.getElem?_cons_zero.{0}) (aj @List.getElem?_cons_succ.{0} @List.drop_zero.{0})) (aj (aj @List.drop_succ_cons.{0} @List.take_succ_cons.{0}) (aj @List.take_zero.{0} (aj @List.set_cons_zero.{0} @List.set_cons_succ.{0})))) (aj (aj (aj @List.cons_append.{0} @List.nil_append.{0}) (aj @List.length_cons.{0} (aj @List.length_nil.{0} @List.all_cons.{0}))) (aj (aj @List.all_nil.{0} @Bool.and_true) (aj @Bool.and_self (aj @Nat.zero_add @Nat.add_zero))))) (aj (aj (aj (aj @bj @and_self) (aj @and_true (aj @true_and @if_true.{1}))) (aj (aj @aU @gJ) (aj @hq (aj @qm @vi)))) (aj (aj (aj @r1 @vh) (aj @vg (aj @DC @DF))) (aj (aj @DK @DU) (aj @DD (aj @DA @DB))))))) (aj (aj (aj (aj (aj (aj @DG @DH) (aj @DI @DJ)) (aj (aj @qX @qY) (aj @v_ (aj @v8 @DL)))) (aj (aj (aj @Du @Dv) (aj @Dw (aj @Dx @Dy))) (aj (aj @Dz @DM) (aj @DO (aj @DN @DP))))) (aj (aj (aj (aj @DQ @DR) (aj @DS (aj @DT @Ea))) (aj (aj @Ee @Eg) (aj @sV (aj @pb @sW)))) (aj (aj (aj @D9 @wk) (aj @wo (aj @wm @Ej))) (aj (aj @Ek @El) (aj @Em (aj @En @Eb)))))) (aj (aj (aj (aj (aj @Ed @nL) (aj @wq @Ec)) (aj (aj @D_ @Ef) (aj @Eh (aj @Ei @q0)))) (aj (aj (aj @D4 @D5) (aj @D6 (aj @D7 @D8))) (aj (aj @zd @zm) (aj @ze (aj @zj @zi))))) (aj (aj (aj (aj @zh @zg) (aj @zf (aj @zk @zl))) (aj (aj @yf @BO) (aj @ad.rE (aj @ad.dp @ad.get_set_same)))) (aj (aj (aj @ad.get_set_other @ad.bT) (aj @ad.dj (aj @ad.Cj @ad.set_set))) (aj (aj @xK @xL) (aj @xt (aj @xp @xq)))))))) (aj (aj (aj (aj (aj (aj (aj @xP @xG) (aj @xH @xI)) (aj (aj @xJ @xM) (aj @xQ (aj @xR @xS)))) (aj (aj (aj @xN @xO) (aj @xD (aj @xE @xu))) (aj (aj @xo @xw) (aj @xx (aj @xv @xC))))) (aj (aj (aj (aj @xF @xz) (aj @xr (aj @xA @xB))) (aj (aj @yA @yB) (aj @yC (aj @yD @yE)))) (aj (aj (aj @yF @yG) (aj @yH (aj @yI @yJ))) (aj (aj @yK @yL) (aj @yM (aj @yN @yO)))))) (aj (aj (aj (aj (aj @yP @yQ) (aj @yR @n9)) (aj (aj @n_ @yS) (aj @yT (aj @yU @yV)))) (aj (aj (aj @yW @yX) (aj @yY (aj @yZ @y0))) (aj (aj @y1 @y2) (aj @y3 (aj @y4 @y5))))) (aj (aj (aj (aj @y6 @y7) (aj @y8 (aj @y9 @y_))) (aj (aj @za @zb) (aj @yr (aj @ys @yt)))) (aj (aj (aj @yu @yv) (aj @yw (aj @yx @yy))) (aj (aj @zz @zB) (aj @zE (aj @zF @zG))))))) (aj (aj (aj (aj (aj (aj @zH @zI) (aj @zJ @zK)) (aj (aj @zL @zM) (aj @zN (aj @zO @zP)))) (aj (aj (aj @zQ @zR) (aj @zS (aj @zT @zU))) (aj (aj @zV @zW) (aj @zX (aj @zY @zZ))))) (aj (aj (aj (aj @z1 @z6) (aj @z7 (aj @z8 @z_))) (aj (aj @Aa @Ab) (aj @Ac (aj @Ad @Ae)))) (aj (aj (aj @Af @Ag) (aj @Ah (aj @Ai @Aj))) (aj (aj @Ak @Al) (aj @zr (aj @zs @zt)))))) (aj (aj (aj (aj (aj @zu @zv) (aj @zw @zx)) (aj (aj @zy @Bt) (aj @qb (aj @rQ @qc)))) (aj (aj (aj @rR @qd) (aj @rS (aj @qe @rT))) (aj (aj @lH @qf) (aj @Bn (aj @Bo @Bp))))) (aj (aj (aj (aj @Bq @rU) (aj @u5 (aj @Br @Bs))) (aj (aj @Bj @Bk) (aj @Bl (aj @Bm @Ax)))) (aj (aj (aj @Ay @Az) (aj @uG (aj @AA @uH))) (aj (aj @uI @AD) (aj @AE (aj @uE @uF))))))))
def br:=aj (aj (aj (aj (aj @E3 @EZ) (aj @Cn (aj @Co @Cs))) (aj (aj @EM @s8) (aj @dG (aj @w_ @ek)))) (aj (aj (aj @s6 @ET) (aj @EO (aj @ES @EP))) (aj (aj @ER @EN) (aj @Ce (aj @Cd @xk))))) (aj (aj (aj (aj @tg @wP) (aj @wQ (aj @te @tf))) (aj (aj @wM @wN) (aj @td (aj @wO @wL)))) (aj (aj (aj @Option.bind_some.{0,0} @aZ) (aj @aT (aj @w6 @Cw))) (aj (aj @vy @Cv) (aj @kP (aj @vx @Cx)))))
def dz:=aj (aj (aj (aj @List.getElem?_cons_zero.{0} (aj @List.getElem?_cons_succ.{0} @List.drop_zero.{0})) (aj (aj @List.drop_succ_cons.{0} @List.take_succ_cons.{0}) (aj @List.take_zero.{0} @List.set_cons_zero.{0}))) (aj (aj (aj @List.set_cons_succ.{0} @List.cons_append.{0}) (aj @List.nil_append.{0} @List.length_cons.{0})) (aj (aj @List.length_nil.{0} @List.all_cons.{0}) (aj @List.all_nil.{0} @Bool.and_true)))) (aj (aj (aj (aj @Bool.and_self @Nat.zero_add) (aj @Nat.add_zero @bj)) (aj (aj @and_self @and_true) (aj @true_and @if_true.{1}))) (aj (aj (aj @aU @gJ) (aj @hq @qm)) (aj (aj @vi @r1) (aj @vh @vg))))
def cy:=aj (aj (aj (aj (aj @DC (aj @DF @DK)) (aj (aj @DU @DD) (aj @DA @DB))) (aj (aj (aj @DG @DH) (aj @DI @DJ)) (aj (aj @qX @qY) (aj @v_ @v8)))) (aj (aj (aj @DL (aj @Du @Dv)) (aj (aj @Dw @Dx) (aj @Dy @Dz))) (aj (aj (aj @DM @DO) (aj @DN @DP)) (aj (aj @DQ @DR) (aj @DS @DT))))) (aj (aj (aj (aj @Ea (aj @Ee @Eg)) (aj (aj @sV @pb) (aj @sW @D9))) (aj (aj (aj @wk @wo) (aj @wm @Ej)) (aj (aj @Ek @El) (aj @Em @En)))) (aj (aj (aj @Eb (aj @Ed @nL)) (aj (aj @wq @Ec) (aj @D_ @Ef))) (aj (aj (aj @Eh @Ei) (aj @q0 @D4)) (aj (aj @D5 @D6) (aj @D7 @D8)))))
def c5:=aj (aj (aj @zd (aj @zm @ze)) (aj @zj (aj @zi @zh))) (aj (aj @zg (aj @zf @zk)) (aj @zl (aj @yf @BO)))
def du:=aj (aj (aj @ad.rE @ad.dp) (aj @ad.get_set_same @ad.get_set_other)) (aj (aj @ad.bT @ad.dj) (aj @ad.Cj @ad.set_set))
def dR:=aj (aj (aj (aj (aj (aj (aj @xK @xL) (aj @xt (aj @xp @xq))) (aj (aj @xP @xG) (aj @xH (aj @xI @xJ)))) (aj (aj (aj @xM @xQ) (aj @xR (aj @xS @xN))) (aj (aj @xO @xD) (aj @xE (aj @xu @xo))))) (aj (aj (aj (aj @xw @xx) (aj @xv (aj @xC @xF))) (aj (aj @xz @xr) (aj @xA (aj @xB @yA)))) (aj (aj (aj @yB @yC) (aj @yD (aj @yE @yF))) (aj (aj @yG @yH) (aj @yI (aj @yJ @yK)))))) (aj (aj (aj (aj (aj @yL @yM) (aj @yN (aj @yO @yP))) (aj (aj @yQ @yR) (aj @n9 (aj @n_ @yS)))) (aj (aj (aj @yT @yU) (aj @yV (aj @yW @yX))) (aj (aj @yY @yZ) (aj @y0 (aj @y1 @y2))))) (aj (aj (aj (aj @y3 @y4) (aj @y5 (aj @y6 @y7))) (aj (aj @y8 @y9) (aj @y_ (aj @za @zb)))) (aj (aj (aj @yr @ys) (aj @yt (aj @yu @yv))) (aj (aj @yw @yx) (aj @yy (aj @zz @zB))))))) (aj (aj (aj (aj (aj (aj @zE @zF) (aj @zG (aj @zH @zI))) (aj (aj @zJ @zK) (aj @zL (aj @zM @zN)))) (aj (aj (aj @zO @zP) (aj @zQ (aj @zR @zS))) (aj (aj @zT @zU) (aj @zV (aj @zW @zX))))) (aj (aj (aj (aj @zY @zZ) (aj @z1 (aj @z6 @z7))) (aj (aj @z8 @z_) (aj @Aa (aj @Ab @Ac)))) (aj (aj (aj @Ad @Ae) (aj @Af (aj @Ag @Ah))) (aj (aj @Ai @Aj) (aj @Ak (aj @Al @zr)))))) (aj (aj (aj (aj (aj @zs @zt) (aj @zu (aj @zv @zw))) (aj (aj @zx @zy) (aj @Bt (aj @qb @rQ)))) (aj (aj (aj @qc @rR) (aj @qd (aj @rS @qe))) (aj (aj @rT @lH) (aj @qf (aj @Bn @Bo))))) (aj (aj (aj (aj @Bp @Bq) (aj @rU (aj @u5 @Br))) (aj (aj @Bs @Bj) (aj @Bk (aj @Bl @Bm)))) (aj (aj (aj @Ax @Ay) (aj @Az (aj @uG @AA))) (aj (aj @uH (aj @uI @AD)) (aj @AE (aj @uE @uF)))))))
def B2:=aj (aj @gJ (aj @hq @qm)) (aj (aj @vi @r1) (aj @vh @vg))
def al{p:Prop}(h:p:=by first|assumption|omega|(simp only[BU];omega)|(simp only[B2];done)|fail):p:=h
def M6{p:Prop}(h:p:=by first|assumption|omega|(simp only[BU];omega)|(simp only[B2];done)|(simp only[List.length_append,List.length_cons,List.length_nil];omega)|fail):p:=h
def GA:(∀cs,(aa.agg cs).cells=cs)/\(∀b,(aa.bool b).cells=[C b])/\(∀k n,(aa.int k n).cells=[.int k n])/\(∀s,(aa.str s).cells=[Y s])/\(∀l i c,(aa.ptr l i c).cells=[.ptr l i c])/\aa.nilPtr.cells=[.nilPtr]/\(∀l i n e c,(aa.aA l i n e c).cells=[.aA l i n e c])/\aa.ar.cells=[.ar]/\(∀f a b,(aa.func f a b).cells=[.func f a b])/\aa.nilFunc.cells=[.nilFunc]/\aa.nilIface.cells=[.nilIface]:=
 ⟨λ_=>rfl,λ_=>rfl,λ_ _=>rfl,λ_=>rfl,λ_ _ _=>rfl,rfl,λ_ _ _ _ _=>rfl,rfl,λ_ _ _=>rfl,rfl,rfl⟩
def ax:=aj @bg.eq_1 (aj @cE.eq_1 (aj @an.eq_1 (aj @aV.eq_1 (aj GA FB))))
end
abbrev aK:=List UInt8
structure Tok where
 kind:Int
 text:aK
 n:Int
 pos:Int
def Tok.none:Tok:=⟨0,[],0,0⟩
def au(T:List Tok)(at_:Int):Tok:=if at_<0\/(T.length:Int)<=at_ then .none else T[at_.toNat]?.getD .none
structure av where
 at_:Int
 bP:Int
 aF:Int
 cS:Int
abbrev jP(n:Int):Int:=IntKind.i64.wrap n
structure bM where
 kind:Int
 n:Int:=0
 name:aK:=[]
 cc:aK:=[]
 c4:Int:=0
 pos:Int:=0
 sU:Int:=0
 D1:Int:=0
 pa:Int:=0
 ref:Int:=0
inductive aL where
 |mk (a:bM) (kids:List aL)
def aL.zero:aL:= .mk {kind:=0} []
def b_(T:List Tok)(s:av)(k:Int)(x:aK):Bool:=s.aF==0&&((au T s.at_).kind==k&&(au T s.at_).text==x)
def cL(T:List Tok)(e:Int)(s:av):av:=if s.aF=0 then {s with aF:=e,cS:=(au T s.at_).pos}else s
def aD(s:av):av:={s with at_:=jP (s.at_+1)}
def o_(T:List Tok)(k:Int)(x:aK)(s:av):Bool×av:=bif b_ T s k x then(X,aD s)else(U,s)
def ej(T:List Tok)(x:aK)(s:av):Bool×av:=bif b_ T s 4 x then(X,aD s)else(U,cL T 2 s)
def dr(T:List Tok)(x:aK)(s:av):Bool×av:=bif b_ T s 4 x then(if 50<=s.bP then(U,cL T 4 s)else(X,{s with at_:=jP (s.at_+1),bP:=jP (s.bP+1)}))else(U,cL T 2 s)
def eo(s:av):av:={s with bP:=jP (s.bP-1)}
def h3(T:List Tok)(x:aK)(s:av):Bool×av:=ej T x (eo s)
def gW(T:List Tok):Nat->Int->av->(Int×av) ⊕ av
 |0,d,s=>bif b_ T s 4 [91]then .inr (cL T 4 s)else .inl (d,s)
 |n+1,d,s=>bif b_ T s 4 [91]then gW T n (d+1) (aD s)else .inl (d,s)
def jQ(T:List Tok)(x:aK):Nat->av->av
 |0,s=>s
 |n+1,s=>jQ T x n (ej T x s).2
def iF(T:List Tok)(d:Int)(s:av):(aK×Int)×av:=bif ((au T s.at_).kind != 1&&(!b_ T s 3 [105,110,116]&& !b_ T s 3 [98,111,111,108]))then(([],0),cL T 2 s) else(((au T s.at_).text,d),jQ T [93] d.toNat (aD s))
def eP(T:List Tok)(s:av):(aK×Int)×av:=match gW T 3 0 s with
 | .inr s'=>(([],0),s')
 | .inl (d,s')=>iF T d s'
def jC:List (List (aK×Int)):=[[([124,124],24)],[([38,38],23)],[([60],19),([60,61],20),([61,61],21),([33,61],22)],[([43],14),([45],15)],[([42],16),([47],17),([37],18)]]
def lC(T:List Tok)(s:av):List (aK×Int)->Int
 |[]=>0
 |(x,k)::r=>bif b_ T s 4 x then k else lC T s r
def lD(T:List Tok)(lev:Nat)(s:av):Int:=lC T s (jC[lev]?.getD [])
def D3(T:List Tok)(s:av):aL×av:=(.mk {kind:=2,n:=bif (au T s.at_).text==[116,114,117,101]then 1 else 0,pos:=(au T s.at_).pos} [],aD s)
def BT(T:List Tok)(s:av):aL×av:=(.mk {kind:=3,cc:=(eP T (aD s)).1.1,c4:=(eP T (aD s)).1.2,pos:=(au T s.at_).pos} [],(eP T (aD s)).2)
def qC(T:List Tok)(s:av):aL×av:=(.mk {kind:=11,pos:=(au T s.at_).pos} [],bif (dr T [40] (aD s)).1 then(h3 T [41] (dr T [40] (aD s)).2).2 else(dr T [40] (aD s)).2)
def iU(T:List Tok)(e:aL)(s:av):aL×av:=(.mk {kind:=5,name:=(au T (aD s).at_).text,pos:=(au T s.at_).pos} [e],aD (bif (au T (aD s).at_).kind != 1 then cL T 2 (aD s)else aD s))
abbrev ae(α:Type):=Option (α×av)
mutual
def ht(T:List Tok):Nat->Nat->av->ae aL
 |0,_,_=>Z
 |n+1,lev,s=>if lev=5 then nM T n s else(ht T n (lev+1) s).bind λp=>na T n lev p.1 p.2
def na(T:List Tok):Nat->Nat->aL->av->ae aL
 |0,_,_,_=>Z
 |n+1,lev,e,s=>if lD T lev s=0 then D (e,s)else
  (ht T n (lev+1) (aD s)).bind λp=>na T n lev (.mk {kind:=lD T lev s,pos:=(au T s.at_).pos} [e,p.1]) p.2
def nM(T:List Tok):Nat->av->ae aL
 |0,_=>Z
 |n+1,s=>bif b_ T s 4 [45]then sS T n [45] 12 s else bif b_ T s 4 [33]then sS T n [33] 13 s else rq T n s
def sS(T:List Tok):Nat->aK->Int->av->ae aL
 |0,_,_,_=>Z
 |n+1,x,k,s=>bif (dr T x s).1 then(nM T n (dr T x s).2).bind λp=>D (.mk {kind:=k,pos:=(au T s.at_).pos} [p.1],eo p.2)else D (.zero,(dr T x s).2)
def rq(T:List Tok):Nat->av->ae aL
 |0,_=>Z
 |n+1,s=>(kI T n s).bind λp=>ju T n p.1 p.2
def ju(T:List Tok):Nat->aL->av->ae aL
 |0,_,_=>Z
 |n+1,e,s=>bif s.aF==0&&(au T s.at_).kind==4 then
  (bif (au T s.at_).text==[46]then ju T n (iU T e s).1 (iU T e s).2
  else bif (au T s.at_).text==[91]then(jO T n [91] [93] s).bind λp=>ju T n (.mk {kind:=6,pos:=(au T s.at_).pos} [e,p.1]) p.2
  else D (e,s))else D (e,s)
def jO(T:List Tok):Nat->aK->aK->av->ae aL
 |0,_,_,_=>Z
 |n+1,b,c,s=>bif (dr T b s).1 then(ht T n 0 (dr T b s).2).bind λp=>D (p.1,(h3 T c p.2).2)else D (.zero,(dr T b s).2)
def kI(T:List Tok):Nat->av->ae aL
 |0,_=>Z
 |n+1,s=>if s.aF≠0 then D (.zero,s)else
  if(au T s.at_).kind=2 then D (.mk {kind:=1,n:=(au T s.at_).n,pos:=(au T s.at_).pos} [],aD s)else
  if(au T s.at_).kind=1 then vb T n s else
  if(au T s.at_).kind=3\/(au T s.at_).kind=4 then
   (bif (au T s.at_).kind==4 then(bif (au T s.at_).text==[40]then jO T n [40] [41] s else D (.zero,cL T 2 s))
   else bif (au T s.at_).text==[116,114,117,101]||(au T s.at_).text==[102,97,108,115,101]then D (D3 T s)
   else bif (au T s.at_).text==[110,117,108,108]then D (BT T s)
   else bif (au T s.at_).text==[110,101,119]then uu T n s
   else bif (au T s.at_).text==[108,101,110]then(jO T n [40] [41] (aD s)).bind λp=>D (.mk {kind:=10,pos:=(au T s.at_).pos} [p.1],p.2)
   else bif (au T s.at_).text==[114,101,97,100]then D (qC T s)
   else D (.zero,cL T 2 s))
  else D (.zero,cL T 2 s)
def vb(T:List Tok):Nat->av->ae aL
 |0,_=>Z
 |n+1,s=>bif b_ T (aD s) 4 [40]then(qa T n (aD s)).bind λp=>D (.mk {kind:=7,name:=(au T s.at_).text,pos:=(au T s.at_).pos} p.1,p.2)
  else D (.mk {kind:=4,name:=(au T s.at_).text,pos:=(au T s.at_).pos} [],aD s)
def uu(T:List Tok):Nat->av->ae aL
 |0,_=>Z
 |n+1,s=>bif b_ T (aD s) 4 [91]then
  (jO T n [40] [41] (ej T [93] (eP T (aD (aD s))).2).2).bind λp=>
   D (.mk {kind:=9,cc:=(eP T (aD (aD s))).1.1,c4:=(eP T (aD (aD s))).1.2,pos:=(au T s.at_).pos} [p.1],p.2)
  else D (.mk {kind:=8,cc:=(au T (aD s).at_).text,pos:=(au T s.at_).pos} [],aD (bif (au T (aD s).at_).kind != 1 then cL T 2 (aD s)else aD s))
def qa(T:List Tok):Nat->av->ae (List aL)
 |0,_=>Z
 |n+1,s=>bif (dr T [40] s).1 then
  (bif b_ T (dr T [40] s).2 4 [41]then D ([],(h3 T [41] (dr T [40] s).2).2)
  else(ht T n 0 (dr T [40] s).2).bind λp=>ov T n [p.1] p.2)
  else D ([],(dr T [40] s).2)
def ov(T:List Tok):Nat->List aL->av->ae (List aL)
 |0,_,_=>Z
 |n+1,l,s=>bif (o_ T 4 [44] s).1 then(ht T n 0 (o_ T 4 [44] s).2).bind λp=>ov T n (l++[p.1]) p.2
  else D (l,(h3 T [41] (o_ T 4 [44] s).2).2)
end
def Tok.cells(t:Tok):List aa:=[I J t.kind,Y t.text,I J t.n,I J t.pos]
def Tok.v(t:Tok):aa:= .agg [I J t.kind,Y t.text,I J t.n,I J t.pos]
def eC(H:ad)(v:aa)(T:List Tok):Prop:=(v= .ar/\T=[])\/∃l i cap,v= .aA l i T.length 4 cap/\(T=[]\/∃ro els,H.get l=D (.row ro 4 els)/\∀(k:Nat) (t:Tok),T[k]? =D t->els[i+k]? =D t.cells)
def iO(H:ad)(r:Nat)(ao cp:aa)(s:av):Prop:=H.get r=D (.row U 6 [[ao,I J s.at_,I J s.bP,cp,I J s.aF,I J s.cS]])
def Ik:List (List (List aa)):=[[[Y [124,124],I J 24]],[[Y [38,38],I J 23]],[[Y [60],I J 19],[Y [60,61],I J 20],[Y [61,61],I J 21],[Y [33,61],I J 22]],[[Y [43],I J 14],[Y [45],I J 15]],[[Y [42],I J 16],[Y [47],I J 17],[Y [37],I J 18]]]
def nP(H:ad)(cp:aa):Prop:=∃l i cap ro els,cp= .aA l i 5 1 cap/\H.get l=D (.row ro 1 els)/\∀(k:Nat) (row:List (List aa)),Ik[k]? =D row->∃l' c d h a,els[i+k]? =D [.aA l' c row.length 2 d]/\H.get l'=D (.row h 2 a)/\∀(j:Nat) (e:List aa),row[j]? =D e->a[c+j]? =D e
def nO(H:ad)(cp:aa):Prop:=cp= .ar\/nP H cp
structure jq(H:ad)(r:Nat)(T:List Tok)(ao cp:aa)(s:av):Prop where
 rd:iO H r ao cp s
 bA:eC H ao T
 cp:nO H cp
abbrev b5(r:Nat):ad->ad->Prop:=cP (· =r)
def eC.aX{H H':ad}{v:aa}{T:List Tok}(h:eC H v T)(p:∀l ro els,H.get l=D (.row ro 4 els)->H'.get l=D (.row ro 4 els)):eC H' v T:=by
 rcases h with h|⟨l,i,cap,c,a|⟨ro,els,a,d⟩⟩
 ·exact .inl h
 ·exact .inr ⟨l,i,cap,c,.inl a⟩
 ·exact .inr ⟨l,i,cap,c,.inr ⟨ro,els,p _ _ _ a,d⟩⟩
def eC.aM{H H':ad}{v:aa}{T:List Tok}(h:eC H v T)(p:aO H H'):eC H' v T:=h.aX λ_ _ _ e=>p.get e
def eC.one{H:ad}{v:aa}{T:List Tok}(h:eC H v T):v.one=true:=by
 rcases h with⟨rfl,_⟩|⟨l,i,cap,rfl,_⟩<;>rfl
def nP.one{H:ad}{v:aa}(h:nP H v):v.one=true:=by
 obtain⟨l,i,cap,ro,els,rfl,_⟩:=h;rfl
def nO.one{H:ad}{v:aa}(h:nO H v):v.one=true:=by
 rcases h with rfl|h
 ·rfl
 ·exact h.one
def nP.aX{H H':ad}{v:aa}(h:nP H v)(p:∀l ro n els,n≠6->H.get l=D (.row ro n els)->H'.get l=D (.row ro n els)):nP H' v:=by
 obtain⟨l,i,cap,ro,els,m,o,q⟩:=h;refine⟨l,i,cap,ro,els,m,p _ _ _ _ af o,λk row s=> ?_⟩;obtain⟨l',u,a,w,j,c,d,e⟩:=q k row s;exact⟨l',u,a,w,j,c,p _ _ _ _ af d,e⟩
def nO.aX{H H':ad}{v:aa}(h:nO H v)(p:∀l ro n els,n≠6->H.get l=D (.row ro n els)->H'.get l=D (.row ro n els)):nO H' v:=by
 rcases h with rfl|h
 ·exact .inl rfl
 ·exact .inr (h.aX p)
def iO.aM{H H':ad}{r:Nat}{ao cp:aa}{s:av}(a:iO H r ao cp s)(p:aO H H'):iO H' r ao cp s:=p.get a
def iO.lt{H:ad}{r:Nat}{ao cp:aa}{s:av}(a:iO H r ao cp s):r<H.next:=ad.aR a
def jq.mut{H H':ad}{r:Nat}{T:List Tok}{ao cp:aa}{s s':av}(h:jq H r T ao cp s)(m:b5 r H H')(c:iO H' r ao cp s'):jq H' r T ao cp s':=by
 have a:∀l ro n els,n≠6->H.get l=D (.row ro n els)->H'.get l=D (.row ro n els):=λl ro n els d e=>m.get e (by
  rintro rfl;rw[h.rd]at e;simp only[aU,bO.row.injEq]at e;exact d e.2.1.symm)
 exact⟨c,h.bA.aX λl ro els e=>a l ro 4 els af e,h.cp.aX a⟩
def jq.aM{H H':ad}{r:Nat}{T:List Tok}{ao cp:aa}{s:av}(h:jq H r T ao cp s)(p:aO H H'):jq H' r T ao cp s:=h.mut (p.mut _) (h.rd.aM p)
def kM(c:Int):Bool:=(decide (97<=c)&&decide (c<=122))||(decide (65<=c)&&decide (c<=90))
def lz(c:Int):Bool:=decide (48<=c)&&decide (c<=57)
def ey(b:UInt8):Bool:=kM b.toNat
def eu(b:UInt8):Bool:=lz b.toNat
def pj:List aK:=[[114,101,99,111,114,100],[103,108,111,98,97,108],[102,117,110,99],[118,97,114],[108,101,116],[105,102],[101,108,115,101],[119,104,105,108,101],[114,101,116,117,114,110],[112,114,105,110,116],[110,117,108,108],[110,101,119],[108,101,110],[114,101,97,100],[116,114,117,101],[102,97,108,115,101],[105,110,116],[98,111,111,108]]
def gI(x:aK):List aK->Bool
 |[]=>U
 |y::a=>y==x||gI x a
def jl(x:aK):Bool:=gI x pj
def mr:aK->Bool
 |[]=>X
 |c::r=>(ey c||eu c)&&mr r
def en(x:aK):Bool:=decide (1<=x.length)&&(decide (x.length<=8)&&(ey (x.headD 0)&&(!jl x&&mr x)))
def runN(d:Bool):aK->Nat
 |[]=>0
 |c::r=>bif eu c||(!d&&ey c)then runN d r+1 else 0
def iL:Int->aK->Option Int
 |n,[]=>D n
 |n,c::r=>if(9223372036854775807-((c.toNat:Int)-48))/10<n then Z else iL (10*n+((c.toNat:Int)-48)) r
def jh:List aK:=[[60,61],[61,61],[33,61],[38,38],[124,124]]
def gX:aK:=[123,125,40,41,91,93,59,58,44,46,61,43,45,42,47,37,60,33]
def iZ(c:UInt8):aK->Bool
 |[]=>U
 |y::a=>c.toNat==y.toNat||iZ c a
def hc(s:aK):aK:=bif decide (2<=s.length)&&gI (s.take 2) jh then s.take 2 else match s with
 |c::_=>bif iZ c gX then[c]else[]
 |[]=>[]
def iB(c:UInt8):Bool:=c.toNat==32||(c.toNat==9||(c.toNat==10||c.toNat==13))
def c2:Bool->aK->Nat
 |_,[]=>0
 |true,c::r=>bif c.toNat==10 then c2 U r+1 else c2 X r+1
 |false,c::r=>bif iB c then c2 U r+1 else bif c==47&&r.head?==D 47 then c2 X r+1 else 0
def hp(s:aK):Option (Int×aK×Int×Nat):=match s with
 |[]=>Z
 |c::_=>
  bif ey c then(bif jl (s.take (runN U s))then D (3,s.take (runN U s),0,runN U s)else bif en (s.take (runN U s))then D (1,s.take (runN U s),0,runN U s)else Z)
  else bif eu c then
   (match iL 0 (s.take (runN X s))with
   |none=>Z
   |some v=>bif (decide (1<runN X s)&&c.toNat==48)||(decide (runN X s<s.length)&&ey ((s[runN X s]?).getD 0))then Z else D (2,[],v,runN X s))
  else bif hc s==[]then Z else D (4,hc s,0,(hc s).length)
def gm:Nat->aK->Nat->Nat ⊕ List Tok
 |0,_,p=> .inl p
 |_+1,[],p=> .inr [⟨0,[],0,p⟩]
 |n+1,c::r,p=>match hp (c::r)with
  |none=> .inl p
  |some (k,t,v,m)=>match gm n (((c::r).drop m).drop (c2 U ((c::r).drop m))) (p+m+c2 U ((c::r).drop m))with
   | .inl e=> .inl e
   | .inr l=> .inr (⟨k,t,v,p⟩::l)
def p_(s:aK):Nat ⊕ List Tok:=gm (s.length+1) (s.drop (c2 U s)) (c2 U s)
def dy(s:aK):List Tok×Int×Int:=if 6000<s.length then([],4,0)else match p_ s with
 | .inl e=>([],1,e)
 | .inr l=>(l,0,0)
def HO(s:List UInt8)(k:Int):eE P 9 (Y s) (I J k)=if 0<=k then(match s[k.toNat]? with|some b=>D (I .u8 b.toNat)|none=>Z)else none:=ah
def jB{s:List UInt8}{k:Nat}{b:UInt8}(h:s[k]? =D b):eE P 9 (Y s) (I J (k:Int))=D (I .u8 b.toNat):=by
 rw[HO,if_pos af];simp[h]
def HP{s:List UInt8}{b:UInt8}(h:s[0]? =D b):eE P 9 (Y s) (I J 0)=D (I .u8 b.toNat):=jB (k:=0) h
def kA(a b:Nat)(h:a+b<=4000000000000000000):IntKind.i64.wrap ((a:Int)+(b:Int))=((a+b:Nat):Int):=by rw[wrap_i64 af af];omega
def hX(a:Nat)(h:a<=4000000000000000000):IntKind.i64.wrap ((a:Int)+1)=((a+1:Nat):Int):=by rw[wrap_i64 af af];omega
def s5(a:Nat)(h:a<=4000000000000000000):IntKind.i64.wrap ((a:Int)+2)=((a+2:Nat):Int):=by rw[wrap_i64 af af];omega
def EK(a b:Nat)(h:a<=4000000000000000000)(c:b<=a):IntKind.i64.wrap ((a:Int)-(b:Int))=((a-b:Nat):Int):=by rw[wrap_i64 af af];omega
def oo{H:ad}(c:Int):W (aC P ay 62 [I .u8 c] H) λv H'=>v= C (kM c)/\H'=H:=by
 refine cz (λ_=>JW 0) ?_;unfold kM;cases a:decide (97<=c)<;>cases d:decide (c<=122)<;>cases e:decide (65<=c)<;>cases h:decide (c<=90)<;>
  (simp-implicitDefEqProofs(disch:=try exact al)only[sK,bg,br,c5,a,d,e,h];exact bb.2 ⟨rfl,rfl⟩)
def tY{H:ad}(c:Int):W (aC P ay 66 [I .u8 c] H) λv H'=>v= C (lz c)/\H'=H:=by
 refine cz (λ_=>J0 0) ?_;unfold lz;cases a:decide (48<=c)<;>cases d:decide (c<=57)<;>
  (simp-implicitDefEqProofs(disch:=try exact al)only[sL,bg,br,c5,a,d];exact bb.2 ⟨rfl,rfl⟩)
def drop_cons{s:aK}{k:Nat}{c:UInt8}{r:aK}(h:s.drop k=c::r):s[k]? =D c/\s.drop (k+1)=r/\k<s.length/\s.length=k+1+r.length:=by
 have a:s[k]? =D c:=by
  have:=List.getElem?_drop (xs:=s) (i:=k) (j:=0);rw[h]at this;simpa using this.symm
 have d:s.drop (k+1)=r:=by
  have:(s.drop k).drop 1=r:=by rw[h];rfl
  rwa[List.drop_drop]at this
 have e:k<s.length:=(List.getElem?_eq_some_iff.1 a).1;have l:=congrArg List.length h;simp at l;exact⟨a,d,e,af⟩
def drop_nil{s:aK}{k:Nat}(h:s.drop k=[]):s.length<=k:=List.drop_eq_nil_iff.1 h
def C1{H:ad}{s:aK}(aB:s.length<=1000000000000000000)(at_:Nat)(d:Bool)(N:Nat):∀(rest:aK) (n m:Nat),s.drop (at_+n)=rest->at_+n<=s.length->rest.length<m->
  W (k4 (aC P ay) N m (Y s) (I J at_) (C d) (I J n) H) λv H'=>v= I J ((n+runN d rest:Nat):Int)/\H'=H
 |_,_,0,_,_,hm=>af
 |[],n,m+1,h,u,hm=>by
  have:=drop_nil h;have i:¬(((at_+n:Nat):Int)<(s.length:Int)):=af;simp-implicitDefEqProofs(disch:=try exact al)only[k4,ja,kj,jL,reduceAdd,reduceLeDiff,reduceIte,ax,kA,i,decide_false];exact bb.2 ⟨by simp[runN],rfl⟩
 |c::r,n,m+1,h,u,hm=>by
  obtain⟨p,q,x,y⟩:=drop_cons h;have i:(((at_+n:Nat):Int)<(s.length:Int)):=af;have w:=C1 (H:=H) aB at_ d N r (n+1) m (by rw[<-Nat.add_assoc];exact q) af (by simp at hm;omega);have j:=jB p;simp-implicitDefEqProofs(disch:=try exact al)only[k4,ja,kj,jL,reduceAdd,reduceLeDiff,reduceIte,ax,kA,i,decide_true,j];refine nV (tY _) ?_;have fin:∀b,(eu c||(!d&&ey c))=b->(b=X->W (k4 (aC P ay) N m (Y s) (I J at_) (C d) (I J ((n+1:Nat):Int)) H) λv H'=>v= I J ((n+runN d (c::r):Nat):Int)/\H'=H)/\(b=U->n+runN d (c::r)=n):=by
   intro b k;refine⟨λh=> ?_,λh=> ?_⟩
   ·refine w.mono ?_;rintro v H' ⟨rfl,rfl⟩;subst h;have e:runN d (c::r)=runN d r+1:=by rw[runN,k];rfl
    have o:n+1+runN d r=n+runN d (c::r):=by rw[e];omega
    exact⟨by rw[o],rfl⟩
   ·subst h;rw[runN,k];rfl
  cases a:lz (c.toNat:Int)with
  |true=>
   simp-implicitDefEqProofs(disch:=try exact al)only[ja,kj,jL,bg,br,c5,hX];exact(fin X (by simp[eu,a])).1 rfl
  |false=>
   cases d with
   |true=>
    simp-implicitDefEqProofs(disch:=try exact al)only[ja,kj,jL,bg,br,Bool.not_true];exact bb.2 ⟨by rw[(fin U (by simp[eu,a])).2 rfl],rfl⟩
   |false=>
    simp-implicitDefEqProofs(disch:=try exact al)only[ja,kj,jL,reduceAdd,reduceLeDiff,reduceIte,ax,Bool.not_false,kA,j];refine nV (oo _) ?_;cases l:kM (c.toNat:Int)with
    |true=>
     simp-implicitDefEqProofs(disch:=try exact al)only[ja,kj,jL,bg,br,c5,hX];exact(fin X (by simp[eu,ey,a,l])).1 rfl
    |false=>
     simp-implicitDefEqProofs(disch:=try exact al)only[ja,kj,jL,bg,br];exact bb.2 ⟨by rw[(fin U (by simp[eu,ey,a,l])).2 rfl],rfl⟩
def C4{H:ad}{s:aK}(aB:s.length<=1000000000000000000)(at_:Nat)(a:at_<=s.length)(d:Bool):W (aC P ay 63 [Y s,I J at_,C d] H) λv H'=>v= I J (runN d (s.drop at_):Nat)/\H'=H:=by
 refine cz (λ_=>JX (s.length+1)) ?_;rw[jL];have:=C1 (H:=H) aB at_ d (s.length+1) (s.drop at_) 0 (s.length+1) rfl af (by simp;omega);simpa using this
def w1{H:ad}{x:aK}{l:Nat}(N:Nat)(all:List aK)(i:all.length<=1000)(d:H.get l=D (.row U 1 (all.map λy=>[aa.str y]))):∀(rest pre:List aK),all=pre++rest->∀(m:Nat),rest.length<m->
  W (l2 (aC P ay) N m (Y x) (.aA l 0 all.length 1 (D all.length)) (I J pre.length) H) λv H'=>v= C (gI x rest)/\H'=H
 |_,_,_,0,hm=>af
 |[],pre,aG,m+1,hm=>by
  have a:¬((pre.length:Int)<(all.length:Int)):=by rw[aG];simp
  simp-implicitDefEqProofs(disch:=try exact al)only[l2,k5,nA,nz,l1,reduceAdd,reduceLeDiff,reduceIte,ax,a,decide_false];exact bb.2 ⟨rfl,rfl⟩
 |y::j,pre,aG,m+1,hm=>by
  have a:((pre.length:Int)<(all.length:Int)):=by rw[aG];simp;omega
  have k:(0:Int)<=(pre.length:Int):=af;have h:((pre.length:Int)).toNat=pre.length:=af;have hle:pre.length<all.length:=af;have he:(all.map λy=>[aa.str y])[pre.length]? =D [aa.str y]:=by rw[aG];simp
  have hw:((pre++[y]).length:Int)=((pre.length+1:Nat):Int):=by simp
  simp-implicitDefEqProofs(disch:=try exact al)only[l2,k5,nA,nz,l1,reduceAdd,reduceLeDiff,reduceIte,ax,a,decide_true,d,h,he];cases c:y==x with
  |true=>
   simp-implicitDefEqProofs(disch:=try exact al)only[k5,nA,nz,l1,bg,br];exact bb.2 ⟨by simp[gI,c],rfl⟩
  |false=>
   have e:=w1 (H:=H) (x:=x) N all i d j (pre++[y]) (by simp[aG]) m (by simp at hm;omega);rw[hw]at e;simp-implicitDefEqProofs(disch:=try exact al)only[k5,nA,nz,l1,bg,br,c5,hX];refine e.mono ?_;rintro v H' ⟨rfl,rfl⟩;exact⟨by simp[gI,c],rfl⟩
def w2{H:ad}(x:aK):W (aC P ay 64 [Y x] H) λv H'=>v= C (jl x)/\aO H H':=by
 refine cz (λ_=>JY 19) ?_;rw[l1];have hw:W (aC P ay 81 [] H) λv H'=>v= .aA H.next 0 pj.length 1 (D pj.length)/\H'=H.push (.row U 1 (pj.map λy=>[aa.str y])):=by
  refine cz (λ_=>J8 0) ?_;rw[sP];simp only[s6,vP];exact bb.2 ⟨rfl,rfl⟩
 refine aN hw ?_;rintro _ _ ⟨rfl,rfl⟩;refine⟨(aO.push _ _).1,?_⟩;rw[nz];refine(w1 (x:=x) 19 pj cu (ad.bC _ _) pj [] rfl 19 cu).mono ?_;rintro v H' ⟨rfl,rfl⟩;exact⟨rfl,aO.push _ _⟩
def wS{H:ad}{s:aK}(aB:s.length<=1000000000000000000)(N:Nat):∀(rest:aK) (n m:Nat),s.drop n=rest->n<=s.length->rest.length<m->
  W (l3 (aC P ay) N m (Y s) (I J n) H) λv H'=>v= C (mr rest)/\H'=H
 |_,_,0,_,_,hm=>af
 |[],n,m+1,h,p,hm=>by
  have:=drop_nil h;have a:¬((n:Int)<(s.length:Int)):=af;simp-implicitDefEqProofs(disch:=try exact al)only[l3,gN,hU,hy,reduceAdd,reduceLeDiff,reduceIte,ax,a,decide_false];exact bb.2 ⟨by simp[mr],rfl⟩
 |c::r,n,m+1,h,p,hm=>by
  obtain⟨l,o,q,u⟩:=drop_cons h;have a:((n:Int)<(s.length:Int)):=af;have k:=wS (H:=H) aB N r (n+1) m o af (by simp at hm;omega);have d:=jB l;simp-implicitDefEqProofs(disch:=try exact al)only[l3,gN,hU,hy,reduceAdd,reduceLeDiff,reduceIte,ax,a,decide_true,d];refine ln (oo _) ?_;cases j:kM (c.toNat:Int)with
  |true=>
   simp-implicitDefEqProofs(disch:=try exact al)only[gN,hU,hy,bg,br,c5,Bool.not_true,hX];refine k.mono ?_;rintro v H' ⟨rfl,e⟩;exact⟨by simp[mr,ey,j],e⟩
  |false=>
   simp-implicitDefEqProofs(disch:=try exact al)only[gN,hU,hy,reduceAdd,reduceLeDiff,reduceIte,ax,Bool.not_false,d];refine nV (tY _) ?_;cases i:lz (c.toNat:Int)with
   |true=>
    simp-implicitDefEqProofs(disch:=try exact al)only[gN,hU,hy,bg,br,c5,Bool.not_true,hX];refine k.mono ?_;rintro v H' ⟨rfl,e⟩;exact⟨by simp[mr,eu,i],e⟩
   |false=>
    simp-implicitDefEqProofs(disch:=try exact al)only[gN,hU,hy,bg,br,c5,Bool.not_false];exact bb.2 ⟨by simp[mr,ey,eu,j,i],rfl⟩
def Fa{H:ad}{s:aK}(aB:s.length<=1000000000000000000):W (aC P ay 65 [Y s] H) λv H'=>v= C (en s)/\aO H H':=by
 refine cz (λ_=>JZ (s.length+1)) ?_;cases d:s with
 |nil=>
  have a:((([]:aK).length:Nat):Int)<1:=by simp
  simp-implicitDefEqProofs(disch:=try exact al)only[gN,hU,hy,bg,br,dR,c5,a,decide_true];exact bb.2 ⟨by simp[en],.refl _⟩
 |cons c r=>
  rw[<-d];have p:1<=s.length:=by rw[d];simp
  have a:¬((s.length:Int)<1):=af;have n:s[0]? =D c:=by rw[d];rfl
  have o:=HP n;have l:s.headD 0=c:=by rw[d];rfl
  by_cases j:(8:Int)<(s.length:Int)
  ·have h:¬s.length<=8:=af;simp-implicitDefEqProofs(disch:=try exact al)only[gN,hU,hy,bg,br,dR,c5,a,j,decide_true,decide_false];exact bb.2 ⟨by simp[en,h],.refl _⟩
  ·have h:s.length<=8:=af;simp-implicitDefEqProofs(disch:=try exact al)only[gN,hU,hy,bg,br,dR,c5,a,j,decide_false,o];refine nV (oo _) ?_;cases k:kM (c.toNat:Int)with
   |false=>
    simp-implicitDefEqProofs(disch:=try exact al)only[gN,hU,hy,bg,br,Bool.not_false];exact bb.2 ⟨by unfold en;rw[l];simp[ey,k],.refl _⟩
   |true=>
    simp-implicitDefEqProofs(disch:=try exact al)only[gN,hU,hy,bg,br,Bool.not_true];refine iP (w2 s) ?_;rintro _ m ⟨rfl,i⟩;refine⟨i.1,?_⟩;cases hw:jl s with
    |true=>
     simp-implicitDefEqProofs(disch:=try exact al)only[gN,hU,hy,bg,br];exact bb.2 ⟨by simp[en,hw],i⟩
    |false=>
     simp-implicitDefEqProofs(disch:=try exact al)only[gN,hy,bg,br];refine(wS (H:=m) aB (s.length+1) s 0 (s.length+1) rfl af af).mono ?_;rintro v H' ⟨rfl,e⟩;exact⟨by unfold en;rw[l];simp[p,h,ey,k,hw],by rw[e];exact i⟩
def x_(n:Int):lp P 5 3 (I .u8 n)=D (I J (IntKind.i64.wrap n)):=ah
def Cr(t:Bool)(a:Int):aq P .quo 3 t (I J a) (I J 10)=D (I J (IntKind.i64.wrap (a.tdiv 10))):=by simp[aq,hj]
def It(t:Bool)(a b:Int):aq P .mul 3 t (I J a) (I J b)=D (I J (IntKind.i64.wrap (a*b))):=GX _ _ _ _ _
def wrap_u8{n:Int}(a:0<=n)(c:n<=255):IntKind.u8.wrap n=n:=by
 show n%256=n;omega
def EE{H:ad}{s:aK}(aB:s.length<=1000000000000000000)(N:Nat):∀(rest:aK) (n m:Nat) (acc:Int),s.drop n=rest->n<=s.length->rest.length<m->0<=acc->acc<=9223372036854775807->(∀c∈rest,eu c=X)->
  W (k6 (aC P ay) N m (Y s) (I J acc) (I J n) H) λv H'=>v=(match iL acc rest with|some z=> .tuple [I J z,C X]|none=> .tuple [I J 0,C U])/\H'=H
 |_,_,0,_,_,_,hm,_,_,_=>af
 |[],n,m+1,acc,h,B,hm,y,A,j=>by
  have:=drop_nil h;have a:¬((n:Int)<(s.length:Int)):=af;simp-implicitDefEqProofs(disch:=try exact al)only[k6,l4,o3,nB,reduceAdd,reduceLeDiff,reduceIte,ax,a,decide_false];exact bb.2 ⟨by simp[iL],rfl⟩
 |c::r,n,m+1,acc,h,B,hm,y,A,j=>by
  obtain⟨w,x,K,L⟩:=drop_cons h;have a:((n:Int)<(s.length:Int)):=af;have k:=jB w;have i:=j c (by simp);simp only[eu,lz,Bool.and_eq_true,decide_eq_true_eq]at i;have l:IntKind.u8.wrap ((c.toNat:Int)-48)=(c.toNat:Int)-48:=wrap_u8 af af;have o:IntKind.i64.wrap ((c.toNat:Int)-48)=(c.toNat:Int)-48:=wrap_i64 af af;have p:IntKind.i64.wrap (9223372036854775807-((c.toNat:Int)-48))=9223372036854775807-((c.toNat:Int)-48):=wrap_i64 af af;have q:(9223372036854775807-((c.toNat:Int)-48)).tdiv 10=(9223372036854775807-((c.toNat:Int)-48))/10:=Int.tdiv_eq_ediv_of_nonneg af;have u:IntKind.i64.wrap ((9223372036854775807-((c.toNat:Int)-48))/10)=(9223372036854775807-((c.toNat:Int)-48))/10:=wrap_i64 af af
  by_cases d:(9223372036854775807-((c.toNat:Int)-48))/10<acc
  ·simp-implicitDefEqProofs(disch:=try exact al)only[k6,l4,o3,nB,reduceAdd,reduceLeDiff,reduceIte,ax,a,decide_true,k,l,o,p,q,u,Cr,pk,x_,d];exact bb.2 ⟨by simp[iL,d],rfl⟩
  ·have F:IntKind.i64.wrap (10*acc)=10*acc:=wrap_i64 af af;have G:IntKind.i64.wrap (10*acc+((c.toNat:Int)-48))=10*acc+((c.toNat:Int)-48):=wrap_i64 af af;have E:=EE (H:=H) aB N r (n+1) m (10*acc+((c.toNat:Int)-48)) x af (by simp at hm;omega) af af (λc i=>j c (by simp[i]));simp-implicitDefEqProofs(disch:=try exact al)only[k6,l4,o3,nB,reduceAdd,reduceLeDiff,reduceIte,ax,a,decide_true,k,l,o,p,q,u,F,G,Cr,It,pk,x_,d,decide_false,hX];refine E.mono ?_;rintro v H' ⟨rfl,e⟩;exact⟨by rw[iL,if_neg d],e⟩
def CY:∀(s:aK),∀c∈s.take (runN X s),eu c=X
 |[],c,h=>by simp[runN]at h
 |x::r,c,h=>by
  rw[runN]at h;cases a:eu x with
  |true=>
   simp only[a,Bool.true_or,aZ,List.take_succ_cons,List.mem_cons]at h;rcases h with rfl|h
   ·exact a
   ·exact CY r c h
  |false=>simp[a]at h
def MU{H:ad}{s:aK}(aB:s.length<=1000000000000000000)(a:∀c∈s,eu c=X):W (aC P ay 67 [Y s] H) λv H'=>v=(match iL 0 s with|some z=> .tuple [I J z,C X]|none=> .tuple [I J 0,C U])/\H'=H:=by
 refine cz (λ_=>J1 (s.length+1)) ?_;rw[nB];exact EE aB (s.length+1) s 0 (s.length+1) 0 rfl af af af af a
def MM:P.underlying 9=D .string:=ah
def qU{s:List UInt8}{a b:Nat}(e:a<=b)(h:b<=s.length):js P 9 (Y s) (D (I J (a:Int))) (D (I J (b:Int))) Z=D (Y ((s.drop a).take (b-a))):=by
 have c:eD (D (I J (b:Int))) s.length s.length=D b:=by simp[eD];omega
 have d:eD (D (I J (a:Int))) 0 b=D a:=by simp[eD];omega
 simp only[js,MM,c,d]
def B4{H:ad}{s:aK}{at_:Nat}{c:UInt8}(l:s[at_]? =D c)(N:Nat):∀(rest:aK) (j m:Nat),gX.drop j=rest->j<=18->rest.length<m->
  W (k7 (aC P ay) N m (Y s) (I J at_) (Y gX) (I J j) H) λv H'=>v= Y (bif iZ c rest then[c]else[])/\H'=H
 |_,_,0,_,_,hm=>af
 |[],j,m+1,h,x,hm=>by
  have:=drop_nil h;have z:gX.length=18:=rfl;have d:¬((j:Int)<(gX.length:Int)):=af;simp-implicitDefEqProofs(disch:=try exact al)only[k7,jb,o4,kn,km,kk,jM,reduceAdd,reduceLeDiff,reduceIte,ax,d,decide_false];exact bb.2 ⟨by simp[iZ],rfl⟩
 |y::r,j,m+1,h,x,hm=>by
  obtain⟨q,u,B,E⟩:=drop_cons h;have z:gX.length=18:=rfl;have d:((j:Int)<(gX.length:Int)):=af;have k:=jB q;have n:=jB l;have A:=B4 (H:=H) l N r (j+1) m u af (by simp at hm;omega);have p:=qU (s:=gX) (a:=j) (b:=j+1) af af;have w:(gX.drop j).take (j+1-j)=[y]:=by rw[h,Nat.add_sub_cancel_left];rfl
  rw[w]at p;cases he:((c.toNat:Int)==(y.toNat:Int))with
  |true=>
   have o:c=y:=by
    have:(c.toNat:Int)=(y.toNat:Int):=by simpa using he
    exact UInt8.toNat_inj.1 af
   have i:(c.toNat==y.toNat)=true:=by rw[o];simp
   simp-implicitDefEqProofs(disch:=try exact al)only[k7,jb,o4,kn,km,kk,jM,reduceAdd,reduceLeDiff,reduceIte,ax,d,decide_true,k,n,he,hX,p];exact bb.2 ⟨by simp[iZ,i,o],rfl⟩
  |false=>
   have i:(c.toNat==y.toNat)=false:=by
    have:¬(c.toNat:Int)=(y.toNat:Int):=by simpa using he
    simp;omega
   simp-implicitDefEqProofs(disch:=try exact al)only[k7,jb,o4,kn,km,kk,jM,reduceAdd,reduceLeDiff,reduceIte,ax,d,decide_true,k,n,he,hX];refine A.mono ?_;rintro v H' ⟨rfl,e⟩;exact⟨by simp[iZ,i],e⟩
def IB{H:ad}{s:aK}{at_:Nat}{c:UInt8}(a:s[at_]? =D c){N:Nat}(d:18<N):W (kn (aC P ay) N (Y s) (I J at_) H) λv H'=>v= Y (bif iZ c gX then[c]else[])/\H'=H:=by
 rw[kn];exact B4 a N gX 0 N rfl af (by simp[gX];omega)
def Ep{H:ad}{s:aK}(aB:s.length<=1000000000000000000){at_:Nat}{c:UInt8}{r:aK}(n:s.drop at_=c::r){l:Nat}{N:Nat}(x:18<N)(i:H.get l=D (.row U 1 (jh.map λy=>[aa.str y]))):∀(rest pre:List aK),jh=pre++rest->∀(m:Nat),rest.length<m->
  W (ko (aC P ay) N m (Y s) (I J at_) (.aA l 0 5 1 (D 5)) (I J pre.length) H) λv H'=>v= Y (bif decide (2<=(s.drop at_).length)&&gI ((s.drop at_).take 2) rest then(s.drop at_).take 2 else bif iZ c gX then[c]else[])/\H'=H
 |_,_,_,0,hm=>af
 |[],pre,aG,m+1,hm=>by
  have K:pre.length=5:=by have:=congrArg List.length aG;simpa [jh]using this.symm
  have d:¬((pre.length:Int)<((5:Nat):Int)):=af;obtain⟨w,E,F,G⟩:=drop_cons n;simp-implicitDefEqProofs(disch:=try exact al)only[ko,jb,km,kk,jM,reduceAdd,reduceLeDiff,reduceIte,ax,d,decide_false];refine(IB w x).mono ?_;rintro v H' ⟨rfl,e⟩;exact⟨by simp[gI],e⟩
 |y::B,pre,aG,m+1,hm=>by
  obtain⟨w,E,F,G⟩:=drop_cons n;have K:pre.length+(B.length+1)=5:=by have:=congrArg List.length aG;simpa [jh]using this.symm
  have d:((pre.length:Int)<((5:Nat):Int)):=af;have L:(0:Int)<=(pre.length:Int):=af;have t1:((pre.length:Int)).toNat=pre.length:=af;have he:(jh.map λy=>[aa.str y])[pre.length]? =D [aa.str y]:=by rw[aG];simp
  have hw:((pre++[y]).length:Int)=((pre.length+1:Nat):Int):=by simp
  have q:=Ep (H:=H) aB n x i B (pre++[y]) (by simp[aG]) m (by simp at hm;omega);rw[hw]at q;have z:(s.drop at_).length=s.length-at_:=by simp
  have u:IntKind.i64.wrap ((s.length:Int)-(at_:Int))=((s.length-at_:Nat):Int):=EK s.length at_ af af;have M:=ad.aR i;by_cases j:(2:Int)<=((s.length-at_:Nat):Int)
  ·have k:decide (2<=(s.drop at_).length)=true:=by rw[z];simp;omega
   have o:=qU (s:=s) (a:=at_) (b:=at_+2) af af;rw[Nat.add_sub_cancel_left]at o;cases h:((s.drop at_).take 2==y)with
   |true=>
    have A:(s.drop at_).take 2=y:=by simpa using h
    have p:(y==(s.drop at_).take 2)=true:=by rw[A];simp
    simp-implicitDefEqProofs(disch:=try exact al)only[ko,jb,km,kk,jM,reduceAdd,reduceLeDiff,reduceIte,ax,d,decide_true,u,j,s5,o,i,he,t1,h];exact bb.2 ⟨by rw[gI,k,p];rw[A];rfl,rfl⟩
   |false=>
    have p:(y==(s.drop at_).take 2)=false:=by
     have:¬(s.drop at_).take 2=y:=by simpa using h
     simp;exactλe=>this e.symm
    simp-implicitDefEqProofs(disch:=try exact al)only[ko,jb,km,kk,jM,reduceAdd,reduceLeDiff,reduceIte,ax,d,decide_true,u,j,s5,o,i,he,t1,h,hX];refine q.mono ?_;rintro v H' ⟨rfl,e⟩;exact⟨by simp only[gI,p,Bool.false_or],e⟩
  ·have k:decide (2<=(s.drop at_).length)=false:=by rw[z];simp;omega
   simp-implicitDefEqProofs(disch:=try exact al)only[ko,jb,km,kk,jM,reduceAdd,reduceLeDiff,reduceIte,ax,d,decide_true,u,j,decide_false,hX];refine q.mono ?_;rintro v H' ⟨rfl,e⟩;exact⟨by simp only[k,Bool.false_and],e⟩
def L7{H:ad}{s:aK}(aB:s.length<=1000000000000000000){at_:Nat}(d:at_<s.length):W (aC P ay 68 [Y s,I J at_] H) λv H'=>v= Y (hc (s.drop at_))/\aO H H':=by
 refine cz (λ_=>J2 30) ?_;obtain⟨c,r,a⟩:∃c r,s.drop at_=c::r:=by
  cases h:s.drop at_ with
  |nil=>have:=drop_nil h;omega
  |cons c r=>exact⟨c,r,rfl⟩
 rw[jM];simp only[s6];rw[kk];refine(Ep (H:=H.push _) aB a af (ad.bC _ _) jh [] rfl 30 cu).mono ?_;rintro v H' ⟨rfl,rfl⟩;refine⟨?_,aO.push _ _⟩;rw[a];rfl
def CF{H:ad}{s:aK}(aB:s.length<=1000000000000000000)(l:aa->aa->ad->O)(N:Nat)(Q:aa->ad->Prop):∀(rest:aK) (at_ m:Nat),s.drop at_=rest->at_<=s.length->rest.length<m->
  (∀(k:Nat),(∀c' cU,rest=c'::cU->c'.toNat≠10->0<k)->at_+k<=s.length->(s.drop (at_+k)).length<=rest.length->k+c2 U (s.drop (at_+k))=c2 X rest->W (l (Y s) (I J ((at_+k:Nat):Int)) H) Q)->
  W (k1 (aC P ay) N l m (Y s) (I J at_) H) Q
 |_,_,0,_,_,hm,_=>af
 |[],at_,m+1,h,n,hm,j=>by
  have:=drop_nil h;have a:¬((at_:Int)<(s.length:Int)):=af;simp-implicitDefEqProofs(disch:=try exact al)only[k1,g_,oT,hP,reduceAdd,reduceLeDiff,reduceIte,ax,a,decide_false];exact j 0 (λ_ _ e=>by cases e) n (by simpa using congrArg List.length h) (by simp[h,c2])
 |c::r,at_,m+1,h,n,hm,j=>by
  obtain⟨p,q,y,z⟩:=drop_cons h;have a:((at_:Int)<(s.length:Int)):=af;have o:=jB p;cases d:((c.toNat:Int) != 10)with
  |false=>
   have i:c.toNat=10:=by
    have:(c.toNat:Int)=10:=by simpa using d
    omega
   simp-implicitDefEqProofs(disch:=try exact al)only[k1,g_,oT,hP,reduceAdd,reduceLeDiff,reduceIte,ax,a,decide_true,o,d];refine j 0 (λ_ _ e x=>by cases e;exact absurd i x) n (by simp only[Nat.add_zero,h];omega) ?_;simp[h,c2,iB,i]
  |true=>
   have i:(c.toNat==10)=false:=by
    have:¬(c.toNat:Int)=10:=by simpa using d
    simp;omega
   simp-implicitDefEqProofs(disch:=try exact al)only[k1,g_,oT,hP,reduceAdd,reduceLeDiff,reduceIte,ax,a,decide_true,o,d,hX];refine CF aB l N Q r (at_+1) m q af (by simp at hm;omega) (λk _ a u v=> ?_);have w:at_+1+k=at_+(k+1):=af;rw[w]at a u v ⊢;refine j (k+1) (λ_ _ _ _=>af) a (by simp only[List.length_cons];omega) ?_;simp only[c2,i,aT];omega
def tQ{H:ad}{s:aK}(aB:s.length<=1000000000000000000)(N:Nat)(T:s.length<N):∀(q:Nat) (rest:aK) (at_ m:Nat),rest.length<=q->s.drop at_=rest->at_<=s.length->rest.length<m->
  W (hx (aC P ay) N m (Y s) (I J at_) H) λv H'=>v= I J ((at_+c2 U rest:Nat):Int)/\H'=H
 |_,_,_,0,_,_,_,hm=>af
 |_,[],at_,m+1,_,h,Q,hm=>by
  have:=drop_nil h;have j:¬((at_:Int)<(s.length:Int)):=af;simp-implicitDefEqProofs(disch:=try exact al)only[hx,g_,jK,hP,reduceAdd,reduceLeDiff,reduceIte,ax,j,decide_false];exact bb.2 ⟨by simp[c2],rfl⟩
 |0,c::r,at_,m+1,E,h,Q,hm=>by simp at E
 |q+1,c::r,at_,m+1,E,h,Q,hm=>by
  obtain⟨L,M,aj,z⟩:=drop_cons h;have j:((at_:Int)<(s.length:Int)):=af;have o:=jB L;simp only[List.length_cons]at E hm;have G:iB c=X->W (hx (aC P ay) N m (Y s) (I J ((at_+1:Nat):Int)) H) λv H'=>v= I J ((at_+c2 U (c::r):Nat):Int)/\H'=H:=by
   intro R;refine(tQ (H:=H) aB N T q r (at_+1) m af M af af).mono ?_;rintro v H' ⟨rfl,e⟩;have aa:at_+1+c2 U r=at_+c2 U (c::r):=by
    rw[c2,R,aZ];omega
   exact⟨by rw[aa],e⟩
  have p:((c.toNat:Int)==32)=(c.toNat==32):=by rw[Bool.eq_iff_iff];simp;omega
  have x:((c.toNat:Int)==9)=(c.toNat==9):=by rw[Bool.eq_iff_iff];simp;omega
  have B:((c.toNat:Int)==10)=(c.toNat==10):=by rw[Bool.eq_iff_iff];simp;omega
  have K:((c.toNat:Int)==13)=(c.toNat==13):=by rw[Bool.eq_iff_iff];simp;omega
  cases i:c.toNat==32 with
  |true=>
   simp-implicitDefEqProofs(disch:=try exact al)only[hx,g_,jK,hP,reduceAdd,reduceLeDiff,reduceIte,ax,j,decide_true,o,p,i,hX];exact G (by simp only[iB,i,Bool.true_or])
  |false=>
   cases l:c.toNat==9 with
   |true=>
    simp-implicitDefEqProofs(disch:=try exact al)only[hx,g_,jK,hP,reduceAdd,reduceLeDiff,reduceIte,ax,j,decide_true,o,p,i,x,l,hX];exact G (by simp only[iB,l,Bool.true_or,Bool.or_true])
   |false=>
    cases n:c.toNat==10 with
    |true=>
     simp-implicitDefEqProofs(disch:=try exact al)only[hx,g_,jK,hP,reduceAdd,reduceLeDiff,reduceIte,ax,j,decide_true,o,p,i,x,l,B,n,hX];exact G (by simp only[iB,n,Bool.true_or,Bool.or_true])
    |false=>
     cases u:c.toNat==13 with
     |true=>
      simp-implicitDefEqProofs(disch:=try exact al)only[hx,g_,jK,hP,reduceAdd,reduceLeDiff,reduceIte,ax,j,decide_true,o,p,i,x,l,B,n,K,u,hX];exact G (by simp only[iB,u,Bool.or_true])
     |false=>
      have ae:iB c=false:=by simp only[iB,i,l,n,u,Bool.or_self]
      have S:IntKind.i64.wrap ((s.length:Int)-(at_:Int))=((s.length-at_:Nat):Int):=EK s.length at_ af af;have V:(c==47&&r.head?==D 47)=U->c2 U (c::r)=0:=λA=>by rw[c2,ae,aT,A,aT]
      by_cases O:(2:Int)<=((s.length-at_:Nat):Int)
      ·have F:=qU (s:=s) (a:=at_) (b:=at_+2) af af;rw[Nat.add_sub_cancel_left,h]at F;obtain⟨y,d,rfl⟩:∃y d,r=y::d:=by
        cases r with
        |nil=>simp at z;omega
        |cons y d=>exact⟨y,d,rfl⟩
       simp only[List.take_succ_cons,List.take_zero]at F;cases w:(([c,y]:aK)==[47,47])with
       |true=>
        have ab:c=47/\y=47:=by simpa using w
        obtain⟨rfl,rfl⟩:=ab;simp-implicitDefEqProofs(disch:=try exact al)only[hx,g_,jK,hP,reduceAdd,reduceLeDiff,reduceIte,ax,j,decide_true,o,p,i,x,l,B,n,K,u,S,O,s5,F,w];refine CF aB (hx (aC P ay) N m) N _ (47::47::d) at_ N h Q (by simp only[List.length_cons]at z ⊢;omega) (λk ag ah ak ai=> ?_);have am:=ag 47 _ rfl cu;have hle:(s.drop (at_+k)).length<=q:=by
         simp only[List.length_drop,List.length_cons]at E z ⊢;omega
        refine(tQ (H:=H) aB N T q (s.drop (at_+k)) (at_+k) m hle rfl ah (by simp only[List.length_drop,List.length_cons]at hm z ⊢;omega)).mono ?_;rintro v H' ⟨rfl,e⟩;have R:c2 U (47::47::d)=c2 X (47::47::d):=by
         have L:c2 U (47::47::d)=c2 X (47::d)+1:=rfl;have M:c2 X (47::47::d)=c2 X (47::d)+1:=rfl;rw[L,M]
        refine⟨?_,e⟩;rw[R,<-ai,Nat.add_assoc]
       |false=>
        have A:(c==47&&(y::d).head?==D 47)=false:=by
         have:¬(c=47/\y=47):=by simpa using w
         simpa using this
        simp-implicitDefEqProofs(disch:=try exact al)only[hx,g_,jK,hP,reduceAdd,reduceLeDiff,reduceIte,ax,j,decide_true,o,p,i,x,l,B,n,K,u,S,O,s5,F,w];exact bb.2 ⟨by rw[V A,Nat.add_zero],rfl⟩
      ·have w:r=[]:=by
        cases r with
        |nil=>rfl
        |cons y d=>simp only[List.length_cons]at z;omega
       have A:(c==47&&r.head?==D 47)=false:=by rw[w];simp
       simp-implicitDefEqProofs(disch:=try exact al)only[hx,g_,jK,hP,reduceAdd,reduceLeDiff,reduceIte,ax,j,decide_true,o,p,i,x,l,B,n,K,u,S,O,decide_false];exact bb.2 ⟨by rw[V A,Nat.add_zero],rfl⟩
def xT{H:ad}{s:aK}(aB:s.length<=1000000000000000000){at_:Nat}(a:at_<=s.length):W (aC P ay 38 [Y s,I J at_] H) λv H'=>v= I J ((at_+c2 U (s.drop at_):Nat):Int)/\H'=H:=by
 refine cz (λ_=>JF (s.length+1)) ?_;rw[hP];exact tQ aB (s.length+1) af s.length (s.drop at_) at_ (s.length+1) (by simp) rfl a (by simp;omega)
