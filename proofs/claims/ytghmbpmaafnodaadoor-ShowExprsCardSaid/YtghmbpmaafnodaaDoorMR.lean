/-
  Texts of one proof, laid together: ShPa Re Rf Rg ShT V1 V2.
-/
import Derived.Test.YtghmbpmaafnodaaDoorMP
set_option linter.unusedVariables false
set_option linter.unusedSimpArgs false
set_option linter.defProp false
open Option renaming some→D,none→C
open Bool renaming true→X,false→U
open Go.bs.aa renaming int→I,str→Z,bool→Y
open Go.IntKind renaming i64→J
namespace Go.Proofs.YtghmbpmaafnodaaDoor
open Go.bs
open Nat (reduceAdd reduceLeDiff)
section
set_option maxRecDepth 100000
noncomputable section
def nm(G:az)(N:Nat)(e h:aa)(bq q:aa)(H:ad):O:=aJ H (G 21 [bq] H) λm d=>j (fq .not m) λn=>aX (D n) (a8 d (aU P d 26 e (.agg [aa.ar,aa.ar,aa.ar])) λa=>j (b6 bq) λo=>j (aH P 59 o 3) λk=>j (ak P a 29 k) λl=>a8 a (aU P a 29 h l) λc=>bif ((bl (ak P d 29 k) l&&(bl (ak P a 29 k) l&&X))&&X)then(j (ak P c 26 e) λr=>j (ak P c 29 h) λi=>D (.tuple [r,i],c))else C) (j (ak P d 26 q) λp=>a8 d (aU P d 26 e p) λa=>a8 a (aU P a 29 h (.agg [I J 0,I J 0])) λc=>j (ak P c 26 e) λr=>j (ak P c 29 h) λi=>D (.tuple [r,i],c))
def OI(G:az)(N:Nat):∀ae H,br P G N (o (o (o (o (o (o (bD Tryd.f9))))))) (bm Tryd.f9) [] (bm Tryd.f9) ae H=nm G N (ae 2) (ae 3) (ae 6) (ae 7) H:=by
 refine bS (aL _) λae H=> ?_
 delta nm;kernel_rfl
def jK(G:az)(N:Nat)(l:aa->aa->aa->aa->ad->O)(n o:aa)(bq e M:aa)(H:ad):O:=aX (D M) (aJ H (G 24 [bq,I J 4] H) λaE k=>l n o bq e k) (aJ H (G 23 [bq,Z [114,101,99,111,114,100]] H) λQ k=>aX (D Q) (j (b6 bq) λR=>j (aH P 59 R 1) λS=>j (ak P k 3 S) λT=>j (aq P .add 3 X T (I J 1)) λV=>j (b6 bq) λW=>j (aH P 59 W 1) λab=>a8 k (aU P k 3 ab V) λh=>aJ h (G 25 [bq] h) λae a=>j (aH P 26 e 0) λs=>j (ak P a 22 s) λu=>bZ a (b5 P (a).next 22 1 [(0,ae)]) λaf c=>aJ c (c1 P c [22,22] u af) λag d=>j (aH P 26 e 0) λah=>a8 d (aU P d 22 ah ag) λi=>bif ((bl (ak P h 22 s) u&&(bl (ak P a 22 s) u&&(bl (ak P c 22 s) u&&X)))&&X)then(l n o bq e i)else C) (aJ k (G 23 [bq,Z [103,108,111,98,97,108]] k) λai h=>aX (D ai) (j (b6 bq) λaj=>j (aH P 59 aj 1) λal=>j (ak P h 3 al) λam=>j (aq P .add 3 X am (I J 1)) λan=>j (b6 bq) λao=>j (aH P 59 ao 1) λap=>a8 h (aU P h 3 ap an) λa=>aJ a (G 26 [bq] a) λau c=>j (aH P 26 e 1) λv=>j (ak P c 23 v) λw=>bZ c (b5 P (c).next 23 1 [(0,au)]) λav d=>aJ d (c1 P d [23,23] w av) λaw i=>j (aH P 26 e 1) λax=>a8 i (aU P i 23 ax aw) λm=>bif ((bl (ak P a 23 v) w&&(bl (ak P c 23 v) w&&(bl (ak P d 23 v) w&&X)))&&X)then(aJ m (G 27 [bq,Z [59]] m) λaF x=>l n o bq e x)else C) (aJ h (G 23 [bq,Z [102,117,110,99]] h) λay a=>aX (D ay) (j (b6 bq) λaA=>j (aH P 59 aA 1) λaC=>j (ak P a 3 aC) λy=>j (aq P .add 3 X y (I J 1)) λz=>j (b6 bq) λA=>j (aH P 59 A 1) λB=>a8 a (aU P a 3 B z) λc=>aJ c (G 28 [bq] c) λE d=>j (aH P 26 e 2) λp=>j (ak P d 24 p) λq=>bZ d (b5 P (d).next 24 1 [(0,E)]) λF i=>aJ i (c1 P i [24,24] q F) λK m=>j (aH P 26 e 2) λL=>a8 m (aU P m 24 L K) λx=>bif ((bl (ak P c 24 p) q&&(bl (ak P d 24 p) q&&(bl (ak P i 24 p) q&&X)))&&X)then(l n o bq e x)else C) (aJ a (G 24 [bq,I J 2] a) λaD c=>l n o bq e c))))
def OJ(G:az)(N:Nat)(a:aa->aa->aa->aa->ad->O):∀ae H,br P G N (o (a7 (a7 (o (a7 (a7 (a7 (o (o (o (o (o (bD Tryd.f9))))))))))))) (λae H=>a (ae 2) (ae 3) (ae 6) (ae 7) H) [(2,(λae H=>a (ae 2) (ae 3) (ae 6) (ae 7) H)),(1,(λae H=>a (ae 2) (ae 3) (ae 6) (ae 7) H)),(0,(λae H=>nm G N (ae 2) (ae 3) (ae 6) (ae 7) H))] (bm Tryd.f9) ae H=jK G N a (ae 2) (ae 3) (ae 6) (ae 7) (ae 31) H:=by
 refine bS (aL _) λae H=> ?_
 delta jK;kernel_rfl
def ux(G:az)(N:Nat)(l:aa->aa->aa->aa->ad->O)(i k:aa)(bq a:aa)(H:ad):O:=aJ H (G 21 [bq] H) λc K=>aN c X K (cv bq) λae o=>aN c X o (λq=>eI o (G 22 [ae] o) q) λaf T=>aN c X T (bu (cL P 61 af 0)) λag V=>aN c X V (bu (aq P .neq 3 X ag (I J 0))) λah p=>j (cu c (D ah) (D (Y U))) λai=>aX (D ai) (aJ p (G 23 [bq,Z [114,101,99,111,114,100]] p) λd W=>aN d X W (bu (aH P 26 a 0)) λaj x=>aN d X x (qr (ak P x 22 aj)) λz y=>aN d X y (λq=>ha (b_ P .empty .len [22] [z]) (b_ P y .len [22] [z]) q) λal ab=>aN d X ab (bu (aq P .eql 3 X al (I J 12))) λam m=>j (cu d (D am) (D (Y U))) λA=>aX (D A) (jK G N l i k bq a A m) (aJ m (G 23 [bq,Z [103,108,111,98,97,108]] m) λe L=>aN e X L (bu (aH P 26 a 1)) λan s=>aN e X s (qr (ak P s 23 an)) λB u=>aN e X u (λq=>ha (b_ P .empty .len [23] [B]) (b_ P u .len [23] [B]) q) λao M=>aN e X M (bu (aq P .eql 3 X ao (I J 8))) λap n=>j (cu e (D ap) (D (Y U))) λE=>aX (D E) (jK G N l i k bq a E n) (aJ n (G 23 [bq,Z [102,117,110,99]] n) λh Q=>aN h X Q (bu (aH P 26 a 2)) λau v=>aN h X v (qr (ak P v 24 au)) λF w=>aN h X w (λq=>ha (b_ P .empty .len [24] [F]) (b_ P w .len [24] [F]) q) λav R=>aN h X R (bu (aq P .eql 3 X av (I J 16))) λaw S=>j (cu h (D aw) (D (Y U))) λax=>jK G N l i k bq a ax S))) (nm G N i k bq a p)
def l4(G:az)(N:Nat):Nat->aa->aa->aa->aa->ad->O
 |0,_,_,_,_,_=>C
 |n+1,a,c,bq,d,H=>ux G N (l4 G N n) a c bq d H
def OH(G:az)(N:Nat)(a:aa->aa->aa->aa->ad->O):∀ae H,br P G N (a7 (a7 (a7 (o (o (o (o (o (bD Tryd.f9))))))))) (λae H=>a (ae 2) (ae 3) (ae 6) (ae 7) H) [(0,(λae H=>nm G N (ae 2) (ae 3) (ae 6) (ae 7) H))] (bm Tryd.f9) ae H=ux G N a (ae 2) (ae 3) (ae 6) (ae 7) H:=by
 refine bS ((aQ ah ((dm ah ((dm ah ((aQ ah (OJ G N a) (aL _))))))) (aL _))) λae H=> ?_
 delta ux;generalize nm G N=c;generalize jK G N a=d;revert c d;refine id ?_;intro c d;kernel_rfl
def r8(G:az)(N:Nat)(ag:aa)(H:ad):O:=cn H [aa.ar,aa.ar,aa.ar] λi o=>cn o [I J 0,I J 0] λk l=>aJ l (G 14 [ag] l) λn p=>j (d_ n 0) λs=>j (d_ n 1) λu=>cn p [I J 0,I J 0] λe m=>a8 m (aU P m 29 e u) λa=>j (aH P 29 e 0) λv=>j (ak P a 27 v) λw=>j (aq P .neq 27 X w (I J 0)) λx=>aX (D x) (a8 a (aU P a 26 i (.agg [aa.ar,aa.ar,aa.ar])) λc=>j (ak P c 29 e) λh=>a8 c (aU P c 29 k h) λd=>bif ((bl (ak P a 29 e) h&&(bl (ak P c 29 e) h&&X))&&X)then(j (ak P d 26 i) λr=>j (ak P d 29 k) λq=>D (.tuple [r,q],d))else C) (j (cy P 59 [(0,s)]) λy=>bZ a (dO (a).next y) λz c=>cn c [aa.ar,aa.ar,aa.ar] λA d=>l4 G N N i k z A d)
def MT(N:Nat){ag:aa}{H:ad}{r:aa×ad}(h:r8 (aD P ay) N ag H=D r):aD P ay 9 [ag] H=D r:=cV N (S:=λG=>r8 G N ag H) Tryd.func9 (λG=>dY ((aQ ah ((aQ ah ((aQ ah ((aQ ah ((aQ ah ((aQ ah (OI G N) ((dm ah ((eB (k:=λm ae H=>l4 G N m (ae 2) (ae 3) (ae 6) (ae 7) H) ah (λae H=>ah) (λm=>OH G N (l4 G N m)))))))) (aL _))) (aL _))) (aL _))) (aL _))) (aL _))) (by delta r8;generalize l4 G N N=a;revert a;refine id ?_;intro a;kernel_rfl)) h
def lP(G:az)(N:Nat)(ag d e:aa)(H:ad):O:=aJ H (G 27 [ag,Z [125]] H) λi a=>j (ak P a 65 e) λh=>a8 a (aU P a 65 d h) λc=>j (ak P c 65 d) λr=>D (r,c)
def Np(G:az)(N:Nat):∀ae H,br P G N (o (o (o (o (o (bD Tryd.f25)))))) (bm Tryd.f25) [] (bm Tryd.f25) ae H=lP G N (ae 0) (ae 2) (ae 3) H:=by
 refine bS (aL _) λae H=> ?_
 delta lP;kernel_rfl
def tT(G:az)(N:Nat)(x:aa->aa->aa->ad->O)(ag o c:aa)(H:ad):O:=aJ H (G 21 [ag] H) λh y=>aN h X y (cv ag) λbC m=>aN h X m (λq=>eI m (G 23 [bC,Z [125]] m) q) λF A=>aN h X A (bu (fq .not F)) λK n=>j (cu h (D K) (D (Y U))) λL=>aX (D L) (aJ n (G 22 [ag] n) λM B=>j (cL P 61 M 0) λQ=>j (aq P .eql 3 X Q (I J 1)) λe=>aN e X B (bu (aH P 65 c 1)) λR u=>aN e X u (qr (ak P u 23 R)) λw v=>aN e X v (λq=>ha (b_ P .empty .len [23] [w]) (b_ P v .len [23] [w]) q) λS E=>aN e X E (bu (aq P .eql 3 X S (I J 8))) λT d=>j (cu e (D T) (D (Y U))) λV=>aX (D V) (aJ d (G 24 [ag,I J 4] d) λah a=>lP G N ag o c a) (aJ d (G 26 [ag] d) λW a=>j (aH P 65 c 1) λi=>j (ak P a 23 i) λk=>bZ a (b5 P (a).next 23 1 [(0,W)]) λab l=>aJ l (c1 P l [23,23] k ab) λae p=>j (aH P 65 c 1) λaf=>a8 p (aU P p 23 af ae) λs=>bif ((bl (ak P d 23 i) k&&(bl (ak P a 23 i) k&&(bl (ak P l 23 i) k&&X)))&&X)then(aJ s (G 27 [ag,Z [59]] s) λai z=>x ag o c z)else C)) (lP G N ag o c n)
def mS(G:az)(N:Nat):Nat->aa->aa->aa->ad->O
 |0,_,_,_,_=>C
 |n+1,ag,a,c,H=>tT G N (mS G N n) ag a c H
def No(G:az)(N:Nat)(c:aa->aa->aa->ad->O):∀ae H,br P G N (a7 (a7 (a7 (o (o (o (o (bD Tryd.f25)))))))) (λae H=>c (ae 0) (ae 2) (ae 3) H) [(0,(λae H=>lP G N (ae 0) (ae 2) (ae 3) H))] (bm Tryd.f25) ae H=tT G N c (ae 0) (ae 2) (ae 3) H:=by
 refine bS (aL _) λae H=> ?_
 delta tT;generalize lP G N=a;revert a;refine id ?_;intro a;kernel_rfl
def tS(G:az)(N:Nat)(ag:aa)(H:ad):O:=cn H [Z [],aa.ar,I J 0] λn c=>aJ c (G 22 [ag] c) λo k=>j (cL P 61 o 3) λbq=>j (cy P 65 [(2,bq)]) λp=>cn k [Z [],aa.ar,I J 0] λa d=>a8 d (aU P d 65 a p) λe=>aJ e (G 55 [ag] e) λq h=>j (aH P 65 a 0) λm=>a8 h (aU P h 9 m q) λi=>aJ i (G 27 [ag,Z [123]] i) λs l=>mS G N N ag n a l
def Md(N:Nat){ag:aa}{H:ad}{r:aa×ad}(h:tS (aD P ay) N ag H=D r):aD P ay 25 [ag] H=D r:=cV N (S:=λG=>tS G N ag H) Tryd.func25 (λG=>dY ((aQ ah ((aQ ah ((aQ ah ((aQ ah ((aQ ah (Np G N) ((dm ah ((eB (k:=λm ae H=>mS G N m (ae 0) (ae 2) (ae 3) H) ah (λae H=>ah) (λm=>No G N (mS G N m)))))))) (aL _))) (aL _))) (aL _))) (aL _))) (by delta tS;generalize mS G N N=a;revert a;refine id ?_;intro a;kernel_rfl)) h
def tU(G:az)(ag:aa)(H:ad):O:=cn H [Z [],Z [],I J 0,I J 0] λo d=>aJ d (G 22 [ag] d) λv p=>j (cL P 61 v 3) λbq=>j (cy P 68 [(2,bq)]) λw=>cn p [Z [],Z [],I J 0,I J 0] λa h=>a8 h (aU P h 68 a w) λi=>aJ i (G 55 [ag] i) λx k=>j (aH P 68 a 0) λq=>a8 k (aU P k 9 q x) λl=>aJ l (G 27 [ag,Z [58]] l) λy m=>aJ m (G 53 [ag] m) λs n=>j (aH P 68 a 1) λu=>a8 n (aU P n 40 u s) λc=>j (ak P c 68 a) λbC=>a8 c (aU P c 68 o bC) λe=>j (ak P e 68 o) λr=>D (r,e)
def Me(N:Nat){ag:aa}{H:ad}{r:aa×ad}(h:tU (aD P ay) ag H=D r):aD P ay 26 [ag] H=D r:=cV N (S:=λG=>tU G ag H) Tryd.func26 (λ_=>by delta tU;kernel_rfl) h
def ow(G:az)(N:Nat)(ag e h:aa)(H:ad):O:=aJ H (G 56 [ag] H) λi c=>j (aH P 73 h 4) λk=>a8 c (aU P c 71 k i) λa=>j (ak P a 73 h) λl=>a8 a (aU P a 73 e l) λd=>j (ak P d 73 e) λr=>D (r,d)
def Ns(G:az)(N:Nat):∀ae H,br P G N (o (o (o (o (o (o (o (bD Tryd.f28)))))))) (bm Tryd.f28) [] (bm Tryd.f28) ae H=ow G N (ae 0) (ae 2) (ae 3) H:=by
 refine bS (aL _) λae H=> ?_
 delta ow;kernel_rfl
def kZ(G:az)(N:Nat)(ag k c:aa)(H:ad):O:=aJ H (G 27 [ag,Z [41]] H) λy d=>aJ d (G 23 [ag,Z [58]] d) λm a=>aX (D m) (j (b6 ag) λn=>j (aH P 59 n 1) λo=>j (ak P a 3 o) λp=>j (aq P .add 3 X p (I J 1)) λq=>j (b6 ag) λs=>j (aH P 59 s 1) λu=>a8 a (aU P a 3 u q) λe=>j (aH P 73 c 2) λv=>a8 e (aU P e 4 v (Y X)) λh=>aJ h (G 53 [ag] h) λw i=>j (aH P 73 c 3) λx=>a8 i (aU P i 40 x w) λl=>ow G N ag k c l) (ow G N ag k c a)
def Nr(G:az)(N:Nat):∀ae H,br P G N (o (o (o (o (o (bD Tryd.f28)))))) (bm Tryd.f28) [] (bm Tryd.f28) ae H=kZ G N (ae 0) (ae 2) (ae 3) H:=by
 refine bS ((aQ ah ((aQ ah (Ns G N) (aL _))) (aL _))) λae H=> ?_
 delta kZ;generalize ow G N=a;revert a;refine id ?_;intro a;kernel_rfl
def tW(G:az)(N:Nat)(m:aa->aa->aa->ad->O)(ag e a:aa)(H:ad):O:=aJ H (G 21 [ag] H) λi B=>aN i X B (cv ag) λbC s=>aN i X s (λq=>eI s (G 23 [bC,Z [41]] s) q) λM F=>aN i X F (bu (fq .not M)) λQ u=>j (cu i (D Q) (D (Y U))) λR=>aX (D R) (aJ u (G 22 [ag] u) λS K=>j (cL P 61 S 0) λT=>j (aq P .eql 3 X T (I J 1)) λh=>aN h X K (bu (aH P 73 a 1)) λV y=>aN h X y (qr (ak P y 23 V)) λA z=>aN h X z (λq=>ha (b_ P .empty .len [23] [A]) (b_ P z .len [23] [A]) q) λW L=>aN h X L (bu (aq P .eql 3 X W (I J 6))) λab d=>j (cu h (D ab) (D (Y U))) λae=>aX (D ae) (aJ d (G 24 [ag,I J 4] d) λao c=>kZ G N ag e a c) (aJ d (G 26 [ag] d) λaf c=>j (aH P 73 a 1) λk=>j (ak P c 23 k) λl=>bZ c (b5 P (c).next 23 1 [(0,af)]) λah n=>aJ n (c1 P n [23,23] l ah) λai v=>j (aH P 73 a 1) λaj=>a8 v (aU P v 23 aj ai) λw=>bif ((bl (ak P d 23 k) l&&(bl (ak P c 23 k) l&&(bl (ak P n 23 k) l&&X)))&&X)then(aJ w (G 23 [ag,Z [41]] w) λal o=>j (fq .not al) λam=>aX (D am) (aJ o (G 27 [ag,Z [44]] o) λap x=>aJ x (G 23 [ag,Z [41]] x) λan p=>aX (D an) (aJ p (G 24 [ag,I J 2] p) λau E=>m ag e a E) (m ag e a p)) (m ag e a o))else C)) (kZ G N ag e a u)
def k0(G:az)(N:Nat):Nat->aa->aa->aa->ad->O
 |0,_,_,_,_=>C
 |n+1,ag,a,c,H=>tW G N (k0 G N n) ag a c H
def Nq(G:az)(N:Nat)(c:aa->aa->aa->ad->O):∀ae H,br P G N (a7 (a7 (a7 (o (o (o (o (bD Tryd.f28)))))))) (λae H=>c (ae 0) (ae 2) (ae 3) H) [(0,(λae H=>kZ G N (ae 0) (ae 2) (ae 3) H))] (bm Tryd.f28) ae H=tW G N c (ae 0) (ae 2) (ae 3) H:=by
 refine bS (aL _) λae H=> ?_
 delta tW;generalize kZ G N=a;revert a;refine id ?_;intro a;kernel_rfl
def tV(G:az)(N:Nat)(ag:aa)(H:ad):O:=cn H [Z [],aa.ar,Y U,Z [],I J 0,aa.ar,I J 0] λn c=>aJ c (G 22 [ag] c) λo k=>j (cL P 61 o 3) λbq=>j (cy P 73 [(5,bq)]) λp=>cn k [Z [],aa.ar,Y U,Z [],I J 0,aa.ar,I J 0] λa d=>a8 d (aU P d 73 a p) λe=>aJ e (G 55 [ag] e) λq h=>j (aH P 73 a 0) λm=>a8 h (aU P h 9 m q) λi=>aJ i (G 27 [ag,Z [40]] i) λs l=>k0 G N N ag n a l
def Mg(N:Nat){ag:aa}{H:ad}{r:aa×ad}(h:tV (aD P ay) N ag H=D r):aD P ay 28 [ag] H=D r:=cV N (S:=λG=>tV G N ag H) Tryd.func28 (λG=>dY ((aQ ah ((aQ ah ((aQ ah ((aQ ah ((aQ ah (Nr G N) ((dm ah ((eB (k:=λm ae H=>k0 G N m (ae 0) (ae 2) (ae 3) H) ah (λae H=>ah) (λm=>Nq G N (k0 G N m)))))))) (aL _))) (aL _))) (aL _))) (aL _))) (by delta tV;generalize k0 G N N=a;revert a;refine id ?_;intro a;kernel_rfl)) h
end
end
section
variable {H H':ad}{r:Nat}{T:List Tok}{ao:aa}{s s':au}
def xt(h:bQ H r T ao s):W (aD P ay 26 [.ptr r 0 0] H) λv H'=>v= .agg (dQ T s).1.cells/\cb r H H'/\bQ H' r T ao (dQ T s).2:=by
 refine cF (λ_=>Me 0) ?_;have ap:=h.rd.lt;have c:=aO.push H (.row U 4 [[Z [],Z [],I J 0,I J 0]]);have K:=ad.bI H (.row U 4 [[Z [],Z [],I J 0,I J 0]]);simp-implicitDefEqProofs(disch:=try exact aj)only[tU,bh,bx,List.length_cons,List.length_nil,Nat.zero_add,Nat.reduceAdd];refine aP (hY (h.rd.aM c) (h.aM c).bJ) ?_;rintro _ H1 ⟨rfl,a⟩;refine⟨a.1,?_⟩;have ag:=a.1;simp only[ad.bX]at ag;have F:=(h.aM c).aM a;have L:=a.get K;unfold dQ et;generalize al T s.at_=q;obtain⟨k,x,z,p⟩:=q;have j:=aO.push H1 (.row U 4 [[Z [],Z [],I J 0,I J p]]);have Q:=ad.bI H1 (.row U 4 [[Z [],Z [],I J 0,I J p]])
 simp-implicitDefEqProofs(disch:=try exact aj)only[bh,bx,ec,ak,cO,aU,cO,Nat.reduceAdd,Nat.reduceLeDiff,reduceIte,aa.cells,cW,dL,dE,ad.gd,Tok.v];refine aP (mM (F.aM j)) ?_;rintro _ m ⟨rfl,m3,e⟩;refine⟨m3.1,?_⟩;have ah:=m3.1;simp only[ad.bX]at ah;have M:=m3.get (j.get L) af;have w:=m3.get Q af;have dV:=ad.aS w;generalize bA T s=o at e ⊢;obtain⟨cp,fc⟩:=o;simp only at e ⊢;have V:=((((c.mut (· =r)).trans (a.mut _)).trans (j.mut _)).trans m3);have B:=V.cE (l:=H1.next) (.inr af) (.row U 4 [[Z cp,Z [],I J 0,I J p]]);have G:=h.mut B (show bH _ r ao fc by unfold bH;rw[ad.get_set_other af];exact e.rd)
 have N:(m.set H1.next (.row U 4 [[Z cp,Z [],I J 0,I J p]])).get H.next=D (.row U 4 [[Z [],Z [],I J 0,I J 0]]):=by rw[ad.get_set_other af];exact M
 have R:(m.set H1.next (.row U 4 [[Z cp,Z [],I J 0,I J p]])).get H1.next=D (.row U 4 [[Z cp,Z [],I J 0,I J p]]):=ad.get_set_same dV
 simp-implicitDefEqProofs(disch:=try exact aj)only[bh,bx,ec,ak,cO,aU,cO,Nat.reduceAdd,Nat.reduceLeDiff,reduceIte,aa.cells,cW,dL,dE,w];refine aP (gO G [58] (by simp)) ?_;rintro _ am ⟨rfl,m5,n⟩;refine⟨m5.1,?_⟩;have ai:=m5.1;simp only[ad.ds]at ai;have O:=m5.get N af;have S:=m5.get R af;generalize bo T [58] fc=kk at n ⊢;simp-implicitDefEqProofs(disch:=try exact aj)only[bh,bx];refine aP (rY n) ?_;rintro _ an ⟨rfl,m6,i⟩;refine⟨m6.1,?_⟩;have av:=m6.1;have u:=m6.get O af;have A:=m6.get S af;have aq:=ad.aS u;have au:=ad.aS A;generalize cI T kk=o at i ⊢;obtain⟨⟨y,d⟩,ax⟩:=o;simp only at i ⊢;have ab:=(B.trans m5).trans m6
 have ae:=ab.cE (l:=H1.next) (.inr af) (.row U 4 [[Z cp,Z y,I J d,I J p]]);have E:=ae.cE (l:=H.next) (.inr (bj _)) (.row U 4 [[Z cp,Z y,I J d,I J p]]);simp-implicitDefEqProofs(disch:=try exact aj)only[reduceAdd,reduceLeDiff,reduceIte,aw,u,A];exact ba.2 ⟨rfl,E,h.mut E (by unfold bH;rw[ad.get_set_other af,ad.get_set_other af];exact i.rd)⟩
end
section
variable {H H' H1:ad}{r:Nat}{T:List Tok}{ao:aa}{s s':au}
def bQ.nQ{s0:au}(h:bQ H1 r T ao s0)(m:iw r H1.next H1 H')(a:bH H' r ao s'):bQ H' r T ao s':=
 ⟨a,h.bJ.a1 λl ro els e=>m.get e (by
  have:=ad.aS e;rintro(rfl|c)
  ·rw[h.rd]at e;simp only[aV,bW.row.injEq]at e;omega
  ·omega)⟩
structure fX(H1 H:ad)(r b c n2 esz:Nat)(T:List Tok)(ao:aa)(z:List aa)(x:aa)(rest:List aa)(l:List ch)(v:aa)(s:au):Prop where
 cN:bQ H r T ao s
 two:H.get b=some (.row false esz [z])
 cell:H.get c=some (.row false esz [x::v::rest])
 gR:c7 f_ (bk n2) H l v
 m:iw r H1.next H1 H
 bO:r<H1.next
 b2:H1.next<=b
 je:b<c
 cz:c<n2
 dz:n2<=H.next
variable {b c n2 esz:Nat}{z:List aa}{x:aa}{rest:List aa}{l:List ch}{v:aa}
def fX.mut(h:fX H1 H r b c n2 esz T ao z x rest l v s)(m:cb r H H')(cN:bQ H' r T ao s'):fX H1 H' r b c n2 esz T ao z x rest l v s':=by
 have bO:=h.bO;have b2:=h.b2;have cz:=h.cz;have dz:=h.dz;have je:=h.je;exact⟨cN,m.get h.two af,m.get h.cell af,h.gR.a1 (dp.mut m λk a=>by unfold bk at a;omega),h.m.trans m.tl,bO,b2,je,cz,by have:=m.1;omega⟩
def fX.add{s0:au}(u:bQ H1 r T ao s0)(h:fX H1 H r b c n2 esz T ao z x rest l v s)(w:l.length<=1000000000)(p:ch):
  ∃i H',c1 P (H.push (.row U 4 [p.cells])) [23,23] v (.aB H.next 0 1 4 (D 1))=D (i,H')/\H.next+1<=H'.next/\i.one=X/\H'.get c=D (.row U esz [x::v::rest])/\(H.push (.row U 4 [p.cells])).get c=D (.row U esz [x::v::rest])/\fX H1 (H'.set c (.row U esz [x::i::rest])) r b c n2 esz T ao z x rest (l++[p]) i s:=by
 have bO:=h.bO;have b2:=h.b2;have cz:=h.cz;have dz:=h.dz;have je:=h.je;obtain⟨i,H',a,n,q,d⟩:=h.gR.pm p (by unfold bk;omega) w;have gc:H'.get c=D (.row U esz [x::v::rest]):=by rw[d c af (by unfold bk;omega)];exact h.cell
 have lc:=ad.aS gc;have o:iw r H1.next H1 (H'.set c (.row U esz [x::i::rest])):=h.m.trans ⟨by simp;omega,λk j ax=>by
  have y:k≠r:=λe=>ax (.inl e)
  have A:¬H1.next<=k:=λe=>ax (.inr e)
  rw[ad.get_set_other af,d k j (by unfold bk;omega)]⟩
 refine⟨i,H',a,q,n.one,gc,(aO.push _ _).get h.cell,?_,by rw[ad.get_set_other af,d b af (by unfold bk;omega)];exact h.two,ad.get_set_same lc,n.a1 λk x j g=>⟨j,by unfold bk at j;rw[ad.get_set_other af];exact g⟩,o,bO,b2,je,cz,by simp;omega⟩;exact u.nQ o (by unfold bH;rw[ad.get_set_other af,d r af (by unfold bk;omega)];exact h.cN.rd)
def EN{N:Nat}{Q:aa->ad->Prop}{cp:aC}{am:Int}{s0:au}(V:bQ H1 r T ao s0){l':List ch}
  (x:∀H v,fX H1 H r b c n2 3 T ao z (Z cp) [I J am] l' v s'->W (lP (aD P ay) N (.ptr r 0 0) (.ptr b 0 0) (.ptr c 0 0) H) Q):
  ∀(n m:Nat) (H:ad) (s:au) (l:List ch) (v:aa),n<m->l.length+n<=1000000000->fX H1 H r b c n2 3 T ao z (Z cp) [I J am] l v s->ps T n l s=D (l',s')->W (mS (aD P ay) N m (.ptr r 0 0) (.ptr b 0 0) (.ptr c 0 0) H) Q
 |_,0,_,_,_,_,aF,_,_,_=>af
 |0,m+1,_,_,_,_,_,_,_,a=>by cases a
 |n+1,m+1,H,s,l,v,aF,a3,h,a=>by
  rw[ps]at a;rw[mS];unfold tT;refine aP (kf h.cN.rd) ?_;rintro _ aZ ⟨rfl,rfl⟩;refine⟨bj _,?_⟩;by_cases S:s.aG=0
  ·have e:(s.aG==0)=true:=by simpa using S
   simp-implicitDefEqProofs(disch:=try exact aj)only[bh,bx,e];refine iA (du h.cN.rd h.cN.bJ [125] (by simp)) ?_;rintro _ a0 ⟨rfl,L⟩;refine⟨L.1,?_⟩;have o:=h.mut (L.mut _) (h.cN.aM L);rw[e,Bool.true_and]at a;cases ai:aY T s [125]with
   |true=>
    rw[ai]at a;cases a;simp-implicitDefEqProofs(disch:=try exact aj)only[bh,bx,e,Bool.not_true];exact x _ _ o
   |false=>
    rw[ai,Bool.not_false,aW]at a;simp-implicitDefEqProofs(disch:=try exact aj)only[bh,bx,e,Bool.not_false];refine aP (hY o.cN.rd o.cN.bJ) ?_;rintro _ k ⟨rfl,M⟩;refine⟨M.1,?_⟩;have d:=o.mut (M.mut _) (o.cN.aM M);have K:=λH'=>d.gR.nW H'
    have a4:=d.gR.rd;have y:=d.cell;have a5:=d.gR.one;have go:((al T s.at_).kind==1&&l.length==8)=X->W (aJ k (aD P ay 24 [.ptr r 0 0,I J 4] k) λa7 i=>lP (aD P ay) N (.ptr r 0 0) (.ptr b 0 0) (.ptr c 0 0) i) Q:=λhm=>by
     rw[hm,aW]at a;cases a;refine aP (ke d.cN 4) ?_;rintro _ a1 ⟨rfl,m5,aL⟩;exact⟨m5.1,x _ _ (d.mut m5 aL)⟩
    have on:((al T s.at_).kind==1&&l.length==8)=U->W (aJ k (aD P ay 26 [.ptr r 0 0] k) λaS i=>
      j (aH P 65 (.ptr c 0 0) 1) λB=>j (ak P i 23 B) λE=>bZ i (b5 P (i).next 23 1 [(0,aS)]) λaT F=>aJ F (c1 P F [23,23] E aT) λaV ab=>j (aH P 65 (.ptr c 0 0) 1) λaX=>a8 ab (aU P ab 23 aX aV) λae=>
      bif ((bl (ak P k 23 B) E&&(bl (ak P i 23 B) E&&(bl (ak P F 23 B) E&&X)))&&X)then(aJ ae (aD P ay 27 [.ptr r 0 0,Z [59]] ae) λa9 az=>mS (aD P ay) N m (.ptr r 0 0) (.ptr b 0 0) (.ptr c 0 0) az)else C) Q:=λhm=>by
     rw[hm,aR]at a;refine aP (xt d.cN) ?_;rintro _ O ⟨rfl,m6,aN⟩;refine⟨m6.1,?_⟩;have w:=d.mut m6 aN;have aA:=w.cell;have aI:=w.gR.rd;generalize dQ T s=q at w a;obtain⟨p,a6⟩:=q;obtain⟨aQ,ap,av,ax,R,an,aE,ag⟩:=w.add V af p;have aK:=sg rD O.next (cs:=p.cells) rfl rfl
     have a2:(O.push (.row U 4 [p.cells])).next<=ap.next:=by simp only[ad.bX];exact ax
     have ah:=iB R;simp only[aa.cells]at ah;simp-implicitDefEqProofs(disch:=try exact aj)only[bh,bx,ec,ak,cO,aU,cO,Nat.reduceAdd,Nat.reduceLeDiff,reduceIte,aa.cells,cW,dL,dE,ah,aA,aK,av,eZ,an,aE,R,aI,y];refine aP (gO ag.cN [59] (by simp)) ?_;rintro _ aq ⟨rfl,m8,aO⟩;refine⟨m8.1,?_⟩;exact EN V x n m aq _ _ aQ af (by simp;omega) (ag.mut m8 aO) a
    cases u:(al T s.at_).kind==1 with
    |true=>
     rw[u]at go on;cases A:l.length==8 with
     |true=>
      have G:((l.length:Int)==8)=true:=by
       have:l.length=8:=by simpa using A
       simp;omega
      rw[A]at go;simp-implicitDefEqProofs(disch:=try exact aj)only[reduceAdd,reduceLeDiff,reduceIte,aw,Tok.v,y,K,u,G];exact go rfl
     |false=>
      have G:((l.length:Int)==8)=false:=by
       have:l.length≠8:=by simpa using A
       simp;omega
      rw[A]at on;simp-implicitDefEqProofs(disch:=try exact aj)only[reduceAdd,reduceLeDiff,reduceIte,aw,Tok.v,y,K,u,G];exact on rfl
    |false=>
     rw[u]at on;simp-implicitDefEqProofs(disch:=try exact aj)only[reduceAdd,reduceLeDiff,reduceIte,aw,Tok.v,y,K,u];exact on rfl
  ·have e:(s.aG==0)=false:=by simpa using S
   rw[e]at a;cases a;simp-implicitDefEqProofs(disch:=try exact aj)only[bh,bx,e];exact x _ _ h
end
section
variable {H H' H1:ad}{r:Nat}{T:List Tok}{ao:aa}{s s':au}
def iw.mt(m:iw r H.next H H'):cb r H H':=⟨m.1,λl a ax=>m.2 l a λe=>by
 rcases e with e|e
 ·exact ax e
 ·omega⟩
def L0{n:Nat}(ax:n<=1000000000)(h:bQ H r T ao s){x:fo}(F:ob T n s=D (x,s')):W (aD P ay 25 [.ptr r 0 0] H) λv H'=>(∃cs,v= .agg cs/\jc.V H' (bk H.next) x cs)/\cb r H H'/\bQ H' r T ao s':=by
 refine cF (λ_=>Md (n+1)) ?_;have aw:=h.rd.lt;unfold ob at F;obtain⟨⟨l',kk⟩,j,G⟩:=cZ.1 F;simp only[aV,b4]at G;obtain⟨rfl,rfl⟩:=G;have d:=aO.push H (.row U 3 [[Z [],.ar,I J 0]]);have ab:=ad.bI H (.row U 3 [[Z [],.ar,I J 0]]);simp-implicitDefEqProofs(disch:=try exact aj)only[tS,bh,bx,List.length_cons,List.length_nil,Nat.zero_add,Nat.reduceAdd];refine aP (hY (h.rd.aM d) (h.aM d).bJ) ?_;rintro _ H1 ⟨rfl,c⟩;refine⟨c.1,?_⟩;have aA:=c.1;simp only[ad.bX]at aA;have O:=(h.aM d).aM c;have ae:=c.get ab;generalize al T s.at_=q;obtain⟨k,x,z,p⟩:=q;have u:=aO.push H1 (.row U 3 [[Z [],.ar,I J p]])
 have an:=ad.bI H1 (.row U 3 [[Z [],.ar,I J p]]);simp-implicitDefEqProofs(disch:=try exact aj)only[bh,bx,ec,ak,cO,aU,cO,Nat.reduceAdd,Nat.reduceLeDiff,reduceIte,aa.cells,cW,dL,dE,ad.gd,Tok.v];refine aP (mM (O.aM u)) ?_;rintro _ w ⟨rfl,m3,i⟩;refine⟨m3.1,?_⟩;have aC:=m3.1;simp only[ad.bX]at aC;have ag:=m3.get (u.get ae) af;have E:=m3.get an af;have dV:=ad.aS E;generalize bA T s=o at i j ⊢;obtain⟨cp,fc⟩:=o;simp only at i j ⊢;have az:=((((d.mut (· =r)).trans (c.mut _)).trans (u.mut _)).trans m3);have L:=az.cE (l:=H1.next) (.inr af) (.row U 3 [[Z cp,.ar,I J p]]);have Q:=h.mut L (show bH _ r ao fc by unfold bH;rw[ad.get_set_other af];exact i.rd)
 have ah:(w.set H1.next (.row U 3 [[Z cp,.ar,I J p]])).get H.next=D (.row U 3 [[Z [],.ar,I J 0]]):=by rw[ad.get_set_other af];exact ag
 have ap:(w.set H1.next (.row U 3 [[Z cp,.ar,I J p]])).get H1.next=D (.row U 3 [[Z cp,.ar,I J p]]):=ad.get_set_same dV
 simp-implicitDefEqProofs(disch:=try exact aj)only[bh,bx,ec,ak,cO,aU,cO,Nat.reduceAdd,Nat.reduceLeDiff,reduceIte,aa.cells,cW,dL,dE,E];refine aP (gO Q [123] (by simp)) ?_;rintro _ e ⟨rfl,m5,R⟩;refine⟨m5.1,?_⟩;have aE:=m5.1;simp only[ad.ds]at aE;have ai:=m5.get ah af;have aq:=m5.get ap af;have gT:fX H e r H.next H1.next e.next 3 T ao [Z [],.ar,I J 0] (Z cp) [I J p] [] .ar (bo T [123] fc):=⟨R,ai,aq,.nil,cb.tl (L.trans m5),aw,bj _,af,af,bj _⟩
 refine EN h (s':=kk) (l':=l') (λaF v A=> ?_) n (n+1) e _ [] .ar (Nat.lt_succ_self _) (by simpa using ax) gT j;unfold lP;refine aP (gO A.cN [125] (by simp)) ?_;rintro _ y ⟨rfl,m7,kS⟩;refine⟨m7.1,?_⟩;have a:=A.mut m7 kS;have B:=a.two;have au:=a.cell;have N:=a.gR.one;have aG:=ad.aS B;have av:=iB N;simp only[aa.cells]at av;have M:iw r H.next H (y.set H.next (.row U 3 [[Z cp,v,I J p]])):=a.m.cE (.inr (bj _)) _
 have S:=h.nQ M (s':=bo T [125] kk) (by unfold bH;rw[ad.get_set_other af];exact a.cN.rd);have am:c7 f_ (bk H.next) (y.set H.next (.row U 3 [[Z cp,v,I J p]])) l' v:=a.gR.a1 λk x K g=>⟨by unfold bk at K ⊢;omega,by have:=a.dz;unfold bk at K;rw[ad.get_set_other af];exact g⟩
 simp-implicitDefEqProofs(disch:=try exact aj)only[bh,bx,ec,ak,cO,aU,cO,Nat.reduceAdd,Nat.reduceLeDiff,reduceIte,aa.cells,cW,dL,dE,B,au,N];exact ba.2 ⟨⟨_,rfl,v,rfl,am.aB⟩,M.mt,S⟩
end
section
set_option maxRecDepth 100000
noncomputable section
def oF(G:az)(N:Nat)(ag c:aa)(H:ad):O:=aJ H (G 79 [ag,Z [125]] H) λd a=>D (c,a)
def N9(G:az)(N:Nat):∀ae H,br P G N (o (o (o (o (bD Tryd.f56))))) (bm Tryd.f56) [] (bm Tryd.f56) ae H=oF G N (ae 0) (ae 3) H:=by
 refine bS (aL _) λae H=> ?_
 delta oF;kernel_rfl
def ui(G:az)(N:Nat)(k:aa->aa->ad->O)(ag i:aa)(H:ad):O:=aJ H (G 21 [ag] H) λa l=>aN a X l (cv ag) λw c=>aN a X c (λq=>eI c (G 23 [w,Z [125]] c) q) λo m=>aN a X m (bu (fq .not o)) λp d=>j (cu a (D p) (D (Y U))) λs=>aX (D s) (aJ d (G 78 [ag] d) λu e=>bZ e (b5 P (e).next 71 1 [(0,u)]) λbC h=>aJ h (c1 P h [71,71] i bC) λv n=>k ag v n) (oF G N ag i d)
def oG(G:az)(N:Nat):Nat->aa->aa->ad->O
 |0,_,_,_=>C
 |n+1,ag,a,H=>ui G N (oG G N n) ag a H
def N8(G:az)(N:Nat)(c:aa->aa->ad->O):∀ae H,br P G N (a7 (a7 (a7 (o (o (o (bD Tryd.f56))))))) (λae H=>c (ae 0) (ae 3) H) [(0,(λae H=>oF G N (ae 0) (ae 3) H))] (bm Tryd.f56) ae H=ui G N c (ae 0) (ae 3) H:=by
 refine bS (aL _) λae H=> ?_
 delta ui;generalize oF G N=a;revert a;refine id ?_;intro a;kernel_rfl
def uh(G:az)(N:Nat)(ag:aa)(H:ad):O:=aJ H (G 77 [ag,Z [123]] H) λc a=>oG G N N ag aa.ar a
def My(N:Nat){ag:aa}{H:ad}{r:aa×ad}(h:uh (aD P ay) N ag H=D r):aD P ay 56 [ag] H=D r:=cV N (S:=λG=>uh G N ag H) Tryd.func56 (λG=>dY ((aQ ah ((aQ ah ((aQ ah ((aQ ah (N9 G N) ((dm ah ((eB (k:=λm ae H=>oG G N m (ae 0) (ae 3) H) ah (λae H=>ah) (λm=>N8 G N (oG G N m)))))))) (aL _))) (aL _))) (aL _))) (by delta uh;generalize oG G N N=a;revert a;refine id ?_;intro a;kernel_rfl)) h
def gL(G:az)(c e:aa)(H:ad):O:=j (ak P H 112 e) λd=>a8 H (aU P H 112 c d) λa=>j (ak P a 112 c) λr=>D (r,a)
def Ot(G:az)(N:Nat):∀ae H,br P G N (o (o (o (o (bD Tryd.f78))))) (bm Tryd.f78) [] (bm Tryd.f78) ae H=gL G (ae 2) (ae 4) H:=by
 refine bS (aL _) λae H=> ?_
 delta gL;kernel_rfl
def oM(G:az)(ag c d:aa)(H:ad):O:=aJ H (G 27 [ag,Z [59]] H) λe a=>gL G c d a
def Ov(G:az)(N:Nat):∀ae H,br P G N (o (o (o (o (o (o (a7 (o (a7 (a7 (o (o (o (bD Tryd.f78)))))))))))))) (λae H=>gL G (ae 2) (ae 4) H) [(0,(λae H=>gL G (ae 2) (ae 4) H))] (bm Tryd.f78) ae H=oM G (ae 0) (ae 2) (ae 4) H:=by
 refine bS (aL _) λae H=> ?_
 delta oM;generalize gL G=a;revert a;refine id ?_;intro a;kernel_rfl
def oN(G:az)(ag c d:aa)(H:ad):O:=aJ H (G 27 [ag,Z [59]] H) λe a=>gL G c d a
def Ow(G:az)(N:Nat):∀ae H,br P G N (o (o (o (a7 (o (o (o (o (o (o (o (a7 (a7 (o (o (o (bD Tryd.f78))))))))))))))))) (λae H=>gL G (ae 2) (ae 4) H) [(0,(λae H=>gL G (ae 2) (ae 4) H))] (bm Tryd.f78) ae H=oN G (ae 0) (ae 2) (ae 4) H:=by
 refine bS (aL _) λae H=> ?_
 delta oN;generalize gL G=a;revert a;refine id ?_;intro a;kernel_rfl
def l3(G:az)(ag n:aa)(aw a ah:aa)(H:ad):O:=aX (D ah) (j (b6 ag) λai=>j (aH P 59 ai 1) λaj=>j (ak P H 3 aj) λal=>j (aq P .add 3 X al (I J 1)) λam=>j (b6 ag) λan=>j (aH P 59 an 1) λao=>a8 H (aU P H 3 ao am) λo=>j (aH P 112 a 0) λap=>a8 o (aU P o 3 ap (I J 1)) λm=>aJ m (G 55 [ag] m) λau i=>j (aH P 112 a 1) λav=>a8 i (aU P i 9 av au) λc=>aJ c (G 27 [ag,Z [58]] c) λbp e=>aJ e (G 53 [ag] e) λax d=>j (aH P 112 a 2) λay=>a8 d (aU P d 40 ay ax) λh=>j (aH P 61 aw 1) λaA=>j (ak P h 9 aA) λaC=>j (aq P .eql 9 X aC (Z [108,101,116])) λaD=>aX (D aD) (j (aH P 112 a 0) λaE=>a8 h (aU P h 3 aE (I J 2)) λk=>aJ k (G 27 [ag,Z [61]] k) λbq l=>aJ l (G 40 [ag,I J 0] l) λaF p=>bZ p (b5 P (p).next 41 1 [(0,aF)]) λaG q=>j (aH P 112 a 3) λaI=>a8 q (aU P q 41 aI aG) λs=>oM G ag n a s) (oM G ag n a h)) (aJ H (G 23 [ag,Z [105,102]] H) λaK o=>aX (D aK) (j (b6 ag) λaL=>j (aH P 59 aL 1) λaM=>j (ak P o 3 aM) λaN=>j (aq P .add 3 X aN (I J 1)) λaO=>j (b6 ag) λaP=>j (aH P 59 aP 1) λaQ=>a8 o (aU P o 3 aQ aO) λm=>j (aH P 112 a 0) λaR=>a8 m (aU P m 3 aR (I J 5)) λi=>aJ i (G 40 [ag,I J 0] i) λaS c=>bZ c (b5 P (c).next 41 1 [(0,aS)]) λaT e=>j (aH P 112 a 3) λaV=>a8 e (aU P e 41 aV aT) λd=>aJ d (G 56 [ag] d) λaW h=>j (aH P 112 a 4) λaY=>a8 h (aU P h 71 aY aW) λk=>aJ k (G 23 [ag,Z [101,108,115,101]] k) λaZ l=>aX (D aZ) (j (b6 ag) λa0=>j (aH P 59 a0 1) λa1=>j (ak P l 3 a1) λa2=>j (aq P .add 3 X a2 (I J 1)) λa3=>j (b6 ag) λa4=>j (aH P 59 a4 1) λa5=>a8 l (aU P l 3 a5 a3) λp=>aJ p (G 56 [ag] p) λa6 q=>j (aH P 112 a 5) λa7=>a8 q (aU P q 71 a7 a6) λs=>gL G n a s) (gL G n a l)) (aJ o (G 23 [ag,Z [119,104,105,108,101]] o) λa9 m=>aX (D a9) (j (b6 ag) λa_=>j (aH P 59 a_ 1) λba=>j (ak P m 3 ba) λbb=>j (aq P .add 3 X bb (I J 1)) λbc=>j (b6 ag) λbd=>j (aH P 59 bd 1) λbe=>a8 m (aU P m 3 be bc) λi=>j (aH P 112 a 0) λbf=>a8 i (aU P i 3 bf (I J 6)) λc=>aJ c (G 40 [ag,I J 0] c) λbg e=>bZ e (b5 P (e).next 41 1 [(0,bg)]) λbh d=>j (aH P 112 a 3) λbi=>a8 d (aU P d 41 bi bh) λh=>aJ h (G 56 [ag] h) λbj k=>j (aH P 112 a 4) λbk=>a8 k (aU P k 71 bk bj) λl=>gL G n a l) (aJ m (G 23 [ag,Z [114,101,116,117,114,110]] m) λbl i=>aX (D bl) (j (b6 ag) λbm=>j (aH P 59 bm 1) λbn=>j (ak P i 3 bn) λu=>j (aq P .add 3 X u (I J 1)) λv=>j (b6 ag) λw=>j (aH P 59 w 1) λx=>a8 i (aU P i 3 x v) λc=>j (aH P 112 a 0) λy=>a8 c (aU P c 3 y (I J 7)) λe=>aJ e (G 23 [ag,Z [59]] e) λz d=>j (fq .not z) λA=>aX (D A) (aJ d (G 40 [ag,I J 0] d) λB h=>bZ h (b5 P (h).next 41 1 [(0,B)]) λF k=>j (aH P 112 a 3) λK=>a8 k (aU P k 41 K F) λl=>oN G ag n a l) (oN G ag n a d)) (aJ i (G 23 [ag,Z [112,114,105,110,116]] i) λL c=>aX (D L) (j (b6 ag) λM=>j (aH P 59 M 1) λN=>j (ak P c 3 N) λR=>j (aq P .add 3 X R (I J 1)) λS=>j (b6 ag) λT=>j (aH P 59 T 1) λV=>a8 c (aU P c 3 V S) λe=>j (aH P 112 a 0) λW=>a8 e (aU P e 3 W (I J 8)) λd=>aJ d (G 40 [ag,I J 0] d) λab h=>bZ h (b5 P (h).next 41 1 [(0,ab)]) λae k=>j (aH P 112 a 3) λaf=>a8 k (aU P k 41 af ae) λl=>aJ l (G 27 [ag,Z [59]] l) λbo p=>gL G n a p) (j (ak P c 112 a) λE=>aJ c (G 89 [ag,E] c) λQ e=>a8 e (aU P e 112 n Q) λd=>j (ak P d 112 n) λr=>D (r,d))))))
def Ou(G:az)(N:Nat):∀ae H,br P G N (o (a7 (a7 (o (o (o (bD Tryd.f78))))))) (λae H=>gL G (ae 2) (ae 4) H) [(0,(λae H=>gL G (ae 2) (ae 4) H))] (bm Tryd.f78) ae H=l3 G (ae 0) (ae 2) (ae 3) (ae 4) (ae 13) H:=by
 refine bS ((dB ah ((aQ ah ((aQ ah ((aQ ah ((aQ ah ((aQ ah ((aQ ah (Ov G N) (aL _))) (aL _))) (aL _))) (aL _))) (aL _))) (aL _))) ((aQ ah ((dB ah (aL _) ((aQ ah ((dB ah (aL _) ((aQ ah ((dB ah ((aQ ah ((aQ ah ((aQ ah (Ow G N) (aL _))) (aL _))) (aL _))) (aL _))) (aL _))))) (aL _))))) (aL _))))) λae H=> ?_
 delta l3;generalize oN G=a;generalize gL G=c;generalize oM G=d;revert a c d;refine id ?_;intro a c d;kernel_rfl
def r5(G:az)(ag:aa)(H:ad):O:=cn H [I J 0,Z [],Z [],I J 0,aa.ar,aa.ar,aa.ar,I J 0,I J 0] λn e=>aJ e (G 22 [ag] e) λbq o=>cn o [I J 0,Z [],I J 0,I J 0] λa h=>a8 h (aU P h 61 a bq) λi=>j (aH P 61 a 3) λs=>j (ak P i 3 s) λu=>j (cy P 112 [(6,u)]) λv=>cn i [I J 0,Z [],Z [],I J 0,aa.ar,aa.ar,aa.ar,I J 0,I J 0] λd k=>a8 k (aU P k 112 d v) λl=>aJ l (G 23 [ag,Z [118,97,114]] l) λm c=>aX (D m) (l3 G ag n a d m c) (aJ c (G 23 [ag,Z [108,101,116]] c) λq p=>l3 G ag n a d q p)
def MM(N:Nat){ag:aa}{H:ad}{r:aa×ad}(h:r5 (aD P ay) ag H=D r):aD P ay 78 [ag] H=D r:=cV N (S:=λG=>r5 G ag H) Tryd.func78 (λG=>dY ((aQ ah ((aQ ah ((aQ ah ((aQ ah (Ot G N) ((dm ah ((aQ ah (Ou G N) (aL _))))))) (aL _))) (aL _))) (aL _))) (by delta r5;generalize l3 G=a;revert a;refine id ?_;intro a;kernel_rfl)) h
def nj(G:az)(ag c:aa)(k l:aa)(H:ad):O:=aJ H (G 27 [ag,Z [61]] H) λT m=>aJ m (G 40 [ag,I J 0] m) λs q=>cn q [I J 0,I J 0,Z [],Z [],I J 0,aa.ar,I J 0,I J 0,I J 0,I J 0,I J 0] λbq o=>a8 o (aU P o 45 bq s) λp=>aJ p (G 27 [ag,Z [59]] p) λV i=>j (aH P 45 l 0) λu=>j (ak P i 3 u) λv=>j (aq P .eql 3 X v (I J 4)) λw=>aX (D w) (j (aH P 112 c 0) λx=>a8 i (aU P i 3 x (I J 3)) λa=>j (aH P 45 l 2) λy=>j (ak P a 9 y) λz=>j (aH P 112 c 1) λA=>a8 a (aU P a 9 A z) λd=>j (ak P d 45 bq) λB=>bZ d (b5 P (d).next 41 1 [(0,B)]) λE e=>j (aH P 112 c 3) λF=>a8 e (aU P e 41 F E) λh=>j (ak P h 112 c) λK=>a8 h (aU P h 112 k K) λn=>j (ak P n 112 k) λr=>D (r,n)) (j (aH P 112 c 0) λL=>a8 i (aU P i 3 L (I J 4)) λa=>j (ak P a 45 l) λM=>j (ak P a 45 bq) λN=>bZ a (b5 P (a).next 41 2 [(0,M),(1,N)]) λQ d=>j (aH P 112 c 3) λR=>a8 d (aU P d 41 R Q) λe=>j (ak P e 112 c) λS=>a8 e (aU P e 112 k S) λh=>j (ak P h 112 k) λr=>D (r,h))
def OD(G:az)(N:Nat):∀ae H,br P G N (o (o (o (o (bD Tryd.f89))))) (bm Tryd.f89) [] (bm Tryd.f89) ae H=nj G (ae 0) (ae 3) (ae 4) (ae 5) H:=by
 refine bS (aL _) λae H=> ?_
 delta nj;kernel_rfl
def qj(G:az)(ag k:aa)(l a:aa)(H:ad):O:=j (aH P 45 a 0) λq=>j (ak P H 3 q) λs=>j (aq P .neq 3 X s (I J 4)) λc=>aN c X H (bu (aH P 45 a 0)) λu h=>aN c X h (qr (ak P h 3 u)) λv m=>aN c X m (bu (aq P .neq 3 X v (I J 5))) λw n=>j (cu c (D w) (D (Y U))) λd=>aN d X n (bu (aH P 45 a 0)) λx i=>aN d X i (qr (ak P i 3 x)) λy o=>aN d X o (bu (aq P .neq 3 X y (I J 6))) λz e=>j (cu d (D z) (D (Y U))) λA=>aX (D A) (aJ e (G 24 [ag,I J 2] e) λB p=>nj G ag k l a p) (nj G ag k l a e)
def OC(G:az)(N:Nat):∀ae H,br P G N (o (o (o (bD Tryd.f89)))) (bm Tryd.f89) [] (bm Tryd.f89) ae H=qj G (ae 0) (ae 3) (ae 4) (ae 5) H:=by
 refine bS ((aQ ah (OD G N) (aL _))) λae H=> ?_
 delta qj;generalize nj G=a;revert a;refine id ?_;intro a;kernel_rfl
def nk(G:az)(ag h d:aa)(H:ad):O:=aJ H (G 27 [ag,Z [59]] H) λi a=>j (ak P a 112 h) λe=>a8 a (aU P a 112 d e) λc=>j (ak P c 112 d) λr=>D (r,c)
def OE(G:az)(N:Nat):∀ae H,br P G N (o (o (o (a7 (o (a7 (o (o (bD Tryd.f89))))))))) (λae H=>qj G (ae 0) (ae 3) (ae 4) (ae 5) H) [] (bm Tryd.f89) ae H=nk G (ae 0) (ae 3) (ae 4) H:=by
 refine bS (aL _) λae H=> ?_
 delta nk;kernel_rfl
def jJ(G:az)(ag av:aa)(H:ad):O:=bZ H (dO (H).next av) λa s=>cn s [I J 0,Z [],Z [],I J 0,aa.ar,aa.ar,aa.ar,I J 0,I J 0] λk m=>aJ m (G 40 [ag,I J 0] m) λQ x=>cn x [I J 0,I J 0,Z [],Z [],I J 0,aa.ar,I J 0,I J 0,I J 0,I J 0,I J 0] λd n=>a8 n (aU P n 45 d Q) λo=>aJ o (G 23 [ag,Z [61]] o) λy h=>j (fq .not y) λz=>aX (D z) (j (aH P 112 a 0) λA=>a8 h (aU P h 3 A (I J 9)) λi=>j (ak P i 45 d) λB=>bZ i (b5 P (i).next 41 1 [(0,B)]) λE p=>j (aH P 112 a 3) λF=>a8 p (aU P p 41 F E) λq=>aJ q (G 23 [ag,Z [59]] q) λc u=>aN c X u (bu (aH P 45 d 0)) λK l=>aN c X l (qr (ak P l 3 K)) λL v=>aN c X v (bu (aq P .neq 3 X L (I J 7))) λM e=>j (cu c (D M) (D (Y U))) λN=>aX (D N) (aJ e (G 24 [ag,I J 2] e) λR w=>nk G ag a k w) (nk G ag a k e)) (qj G ag a k d h)
def MS(N:Nat){ag av:aa}{H:ad}{r:aa×ad}(h:jJ (aD P ay) ag av H=D r):aD P ay 89 [ag,av] H=D r:=cV N (S:=λG=>jJ G ag av H) Tryd.func89 (λG=>dY ((aQ ah ((aQ ah ((aQ ah (OC G N) ((aQ ah ((dB ah ((aQ ah ((aQ ah ((aQ ah (OE G N) (aL _))) (aL _))) (aL _))) (aL _))) (aL _))))) (aL _))) (aL _))) (by delta jJ;generalize qj G=a;generalize nk G=c;revert a c;refine id ?_;intro a c;kernel_rfl)) h
end
end
def pX{H:ad}{r:Nat}{T:List Tok}{ao:aa}{s:au}(aK:T.length<=20000000)(c:bQ H r T ao s):W (aD P ay 40 [.ptr r 0 0,I J 0] H) (dM H r T ao (bK T s).1 (bK T s).2):=by
 obtain⟨p,q,-,a,-,-⟩:=E0 (T:=T) af T.length s (CJ _ _) 0 800000000 800000000 af af af;have:bK T s=q:=by simp only[bK,a]
 rw[this];exact(vd 800000000 af 800000000 (bj _)).expr c 0 af q.1 q.2 a
def LY{H0 H:ad}{r:Nat}{T:List Tok}{ao:aa}{s0 s:au}(c:bQ H0 r T ao s0)(j:cb r H0 H)(l:bH H r ao s){a:b9}{es:List aA}{cc:aa}(i:cg H (bk (H0.next+2)) es cc)(g3:H.get H0.next=D (.row U 9 [a.cells cc .ar .ar]))(g4:H.get (H0.next+1)=D (.row U 9 [[I J 0,Z [],Z [],I J 0,.ar,.ar,.ar,I J 0,I J 0]])):
  W (nk (aD P ay) (.ptr r 0 0) (.ptr H0.next 0 0) (.ptr (H0.next+1) 0 0) H) (fz H0 r T ao (.mk a es [] []) (bo T [59] s)):=by
 have n:=c.rd.lt;have nX:=ad.aS g4;have k:=i.ej;rw[nk];refine aP (gO (c.mut j l) [59] (by simp)) ?_;rintro _ H1 ⟨rfl,m1,m⟩;refine⟨m1.1,?_⟩;have d:=m1.get g3 af;have e:=m1.get g4 af;have fk:=ad.aS e;simp only[b9.cells]at d;simp-implicitDefEqProofs(disch:=try exact aj)only[jJ,reduceAdd,reduceLeDiff,reduceIte,aw,fe,d,e,k];exact ba.2 (fz.fin (a:=a) c (j.trans m1) m.rd (i.a1 (c9.mut m1 (by unfold bk;omega) λ_ h=>h)) (c_.nil _ _) (c_.nil _ _) af (lo:=H0.next+2) af _)
def fz.two{H c bR:ad}{r:Nat}{T:List Tok}{ao:aa}{s s':au}{a:b9}{es:List aA}{cc:aa}(i:bQ H r T ao s)(j:cb r H c)(d:bH c r ao s')(u:c.next<=bR.next)(e:∀l,l<c.next->l≠H.next->l≠H.next+1->bR.get l=c.get l)
  (o:c9 c (bk (H.next+2)) bR (bk H.next)->cg bR (bk H.next) es cc):fz H r T ao (.mk a es [] []) s' (.agg (a.cells cc .ar .ar)) bR:=by
 have q:=i.rd.lt;have p:=j.1;have m:cb r H bR:=⟨af,λl k n=>by rw[e l af af af];exact j.2 l k n⟩;refine⟨m,i.mut m ?_,mb.2 ⟨cc,.ar,.ar,rfl,o λl ro els h g=>⟨by unfold bk at*;omega,?_⟩,c_.nil _ _,c_.nil _ _⟩⟩
 ·have:=d.lt;unfold bH at d ⊢;rw[e r af af af];exact d
 ·have:=ad.aS g;unfold bk at h;rw[e l af af af];exact g
def L1{H0 H:ad}{r:Nat}{T:List Tok}{ao:aa}{s0 s:au}(aK:T.length<=20000000)(d:bQ H0 r T ao s0)(B:cb r H0 H)(N:bH H r ao s){pos:Int}{a:bG}{ks:List aA}{kv:aa}{b:Nat}(he:cw H (λl=>H0.next+2<=l/\l<b) (.mk a ks) (.agg (a.cells kv)))(ab:H0.next+2<=b)
  (g3:H.get H0.next=D (.row U 9 [b9.cells {kind:=0,pos:=pos} .ar .ar .ar])) (g4:H.get (H0.next+1)=D (.row U 9 [[I J 0,Z [],Z [],I J 0,.ar,.ar,.ar,I J 0,I J 0]])) (g5:H.get b=D (.row U 11 [a.cells kv])):
  W (nj (aD P ay) (.ptr r 0 0) (.ptr H0.next 0 0) (.ptr (H0.next+1) 0 0) (.ptr b 0 0) H) (fz H0 r T ao (bM.at pos (bif a.kind==4 then .mk {kind:=3,name:=a.name} [(bK T (bo T [61] s)).1] [] []else .mk {kind:=4} [.mk a ks,(bK T (bo T [61] s)).1] [] [])) (bo T [59] (bK T (bo T [61] s)).2)):=by
 have ae:=d.rd.lt;have ag:=ad.aS g5;rw[nj];refine aP (gO (d.mut B N) [61] (by simp)) ?_;rintro _ H1 ⟨rfl,m1,m⟩;refine⟨m1.1,?_⟩;have ak:=m1.1;generalize bo T [61] s=s1 at m ⊢;simp-implicitDefEqProofs(disch:=try exact aj)only[jJ,reduceAdd,reduceLeDiff,reduceIte,aw,fe];refine aP (pX aK m) ?_;rintro v q ⟨m2,n,j⟩;refine⟨m2.1,?_⟩;have n2:=m2.1;obtain⟨cs,rfl,i,bO⟩:=j.cells;generalize bK T s1=aE at n j ⊢;simp-implicitDefEqProofs(disch:=try exact aj)only[jJ,reduceAdd,reduceLeDiff,reduceIte,aw,fe,i,bO,List.append_nil];have c:=aO.push q (.row U 11 [cs]);refine aP (gO (n.aM c) [59] (by simp)) ?_;rintro _ F ⟨rfl,m4,y⟩
 refine⟨m4.1,?_⟩;have Q:=m4.1;simp only[ad.bX]at Q;have gT:=n.rd.lt;have e:=m4.get (c.get (m2.get (m1.get g3 af) af)) af;have o:=m4.get (c.get (m2.get (m1.get g4 af) af)) af;have p:=m4.get (c.get (m2.get (m1.get g5 af) af)) af;have z:=m4.get (ad.bI q (.row U 11 [cs])) af;have ah:=ad.aS e;have ai:=ad.aS o;have m24:=(c.mut (· =r)).trans m4;have E:=(((B.trans m1).trans m2).trans m24);have t1:List.take 11 cs=cs:=List.take_of_length_le af;have x:=j.mut (ok':=bk (H0.next+2)) m24 (by unfold bk;have:=m.rd.lt;omega) λl h=>by unfold bk at*;omega
 have G:cw F (bk (H0.next+2)) (.mk a ks) (.agg (a.cells kv)):=he.mut ((m1.trans m2).trans m24) af λl h=>by unfold bk;omega
 obtain⟨O,M,L⟩:=hc.1 he;have w:=L.ej;have K:O=kv:=by
  have:=congrArg (λv=>match v with|aa.agg cs=>cs[5]? |_=>C) M;simpa [bG.cells]using this.symm
 rw[K]at w;have R:(a.cells kv).all aa.one=true:=by simp only[bG.cells,List.all_cons,List.all_nil,gF,hp,w,Bool.and_self]
 simp only[b9.cells]at e;cases u:a.kind==4 with
 |true=>
  have ax:∀l,b5 P l 41 1 [(0,.agg cs)]=D (.aB l 0 1 11 (D 1),.row U 11 [cs]):=λl=>jM l cs i bO
  simp only[bG.cells]at p;simp-implicitDefEqProofs(disch:=try exact aj)only[jJ,reduceAdd,reduceLeDiff,reduceIte,aw,fe,e,o,p,z,u,t1,ax,ad.gd];refine ba.2 (fz.two (a:={kind:=3,name:=a.name,pos:=pos}) d E y.rd ?_ ?_ λk=>cg.n5 (ro:=false) ?_ (by unfold bk;omega) (cw.a1 k _ _ x))
  ·simp only[ad.bX,ad.ds];omega
  ·intro l a6 S V;simp-implicitDefEqProofs(disch:=try exact aj)only[dE]
  ·simp-implicitDefEqProofs(disch:=try exact aj)only[dE]
 |false=>
  have ax:∀l,b5 P l 41 2 [(0,.agg (a.cells kv)),(1,.agg cs)]=D (.aB l 0 2 11 (D 2),.row U 11 [a.cells kv,cs]):=λl=>xL l (a.cells kv) cs rfl R i bO
  have A:=p;simp only[bG.cells]at A ax;simp-implicitDefEqProofs(disch:=try exact aj)only[jJ,reduceAdd,reduceLeDiff,reduceIte,aw,fe,e,o,A,z,u,t1,ax,ad.gd];refine ba.2 (fz.two (a:={kind:=4,pos:=pos}) d E y.rd ?_ ?_ λk=>cg.x5 (ro:=false) ?_ (by unfold bk;omega) (cw.a1 k _ _ G) (cw.a1 k _ _ x))
  ·simp only[ad.bX,ad.ds];omega
  ·intro l a6 S V;simp-implicitDefEqProofs(disch:=try exact aj)only[dE]
  ·simp-implicitDefEqProofs(disch:=try exact aj)only[dE,bG.cells]
def LZ{H:ad}{r:Nat}{T:List Tok}{ao:aa}{s:au}(aK:T.length<=20000000)(w:bQ H r T ao s)(pos:Int):W (aD P ay 89 [.ptr r 0 0,.agg (b9.cells {kind:=0,pos:=pos} .ar .ar .ar)] H) (fz H r T ao ((kR T s).1.at pos) (kR T s).2):=by
 refine cF (λ_=>MS 0) ?_;have aq:=w.rd.lt;have ah:∀l,dO l (.agg (b9.cells {kind:=0,pos:=pos} .ar .ar .ar))=D (.ptr l 0 0,.row U 9 [b9.cells {kind:=0,pos:=pos} .ar .ar .ar]):=λl=>hk l _ rfl
 have ag:=(aO.push H (.row U 9 [b9.cells {kind:=0,pos:=pos} .ar .ar .ar])).bE (.row U 9 [[I J 0,Z [],Z [],I J 0,.ar,.ar,.ar,I J 0,I J 0]]);simp-implicitDefEqProofs(disch:=try exact aj)only[jJ,reduceAdd,reduceLeDiff,reduceIte,aw,fe,ah];refine aP (pX aK (w.aM ag)) ?_;rintro v j ⟨m2,B,he⟩;refine⟨m2.1,?_⟩;have n2:=m2.1;simp only[ad.bX]at n2;unfold kR;obtain⟨cs,rfl,ab,bO⟩:=he.cells;have t1:List.take 11 cs=cs:=List.take_of_length_le af;have g3:j.get H.next=D (.row U 9 [b9.cells {kind:=0,pos:=pos} .ar .ar .ar]):=m2.get (by simp-implicitDefEqProofs(disch:=try exact aj)only[dE]) af
 have g4:=m2.get (ad.bI (H.push (.row U 9 [b9.cells {kind:=0,pos:=pos} .ar .ar .ar])) (.row U 9 [[I J 0,Z [],Z [],I J 0,.ar,.ar,.ar,I J 0,I J 0]])) (by simp only[ad.bX];omega);simp only[ad.bX]at g4;generalize bK T s=aE at B he ⊢;simp-implicitDefEqProofs(disch:=try exact aj)only[jJ,reduceAdd,reduceLeDiff,reduceIte,aw,fe,ab,bO,List.append_nil];have V:=aO.push j (.row U 11 [cs]);refine aP (du (B.rd.aM V) (B.bJ.aM V) [61] (by simp)) ?_;rintro _ c ⟨rfl,K⟩;refine⟨K.1,?_⟩;have ak:=K.1;simp only[ad.bX]at ak;have x:=V.trans K;have F:=x.get g3;have G:=x.get g4;have p:=K.get (ad.bI j (.row U 11 [cs]))
 have av:=ad.aS F;have az:=ad.aS p;have m:cw c (λl=>H.next+2<=l/\l<j.next) aE.1 (.agg cs):=cw.a1 (c9.aM x λl h=>by simpa only[bk,ad.bX]using h) _ _ he.below;have S:=((ag.mut (· =r)).trans m2).trans (x.mut _);have O:=B.aM x;cases ap:aY T aE.2 [61]with
 |true=>
  simp-implicitDefEqProofs(disch:=try exact aj)only[jJ,reduceAdd,reduceLeDiff,reduceIte,aw,fe,Bool.not_true];unfold xI;have fin:∀(e:ad) (a:bG) (ks:List aA) (kv:aa),cw e (λl=>H.next+2<=l/\l<j.next) (.mk a ks) (.agg (a.cells kv))->cb r H e->bH e r ao (bif iD (.mk a ks)then cQ T 2 aE.2 else aE.2)->e.get H.next=D (.row U 9 [b9.cells {kind:=0,pos:=pos} .ar .ar .ar])->e.get (H.next+1)=D (.row U 9 [[I J 0,Z [],Z [],I J 0,.ar,.ar,.ar,I J 0,I J 0]])->e.get j.next=D (.row U 11 [a.cells kv])->
    W (nj (aD P ay) (.ptr r 0 0) (.ptr H.next 0 0) (.ptr (H.next+1) 0 0) (.ptr j.next 0 0) e) (fz H r T ao (bM.at pos (bif (aA.mk a ks).kind==4 then .mk {kind:=3,name:=(aA.mk a ks).name} [(bK T (h8 T (.mk a ks) aE.2)).1] [] []else .mk {kind:=4} [.mk a ks,(bK T (h8 T (.mk a ks) aE.2)).1] [] [])) (bo T [59] (bK T (h8 T (.mk a ks) aE.2)).2)):=
   λe a ks kv h m5 d5 y i d=>L1 aK w m5 d5 h af y i d
  rcases N:aE.1 with⟨a,ks⟩;rw[N]at m;obtain⟨kv,u,-⟩:=hc.1 m;simp only[aa.agg.injEq]at u;subst u;have q:=p;simp only[bG.cells]at q;simp-implicitDefEqProofs(disch:=try exact aj)only[qj,reduceAdd,reduceLeDiff,reduceIte,aw,q];have M:=λ(h:iD (.mk a ks)=U)=>fin c a ks kv m S (by rw[h];exact O.rd) F G p
  cases i:(a.kind != 4)with
  |false=>
   simp-implicitDefEqProofs(disch:=try exact aj)only[reduceAdd,reduceLeDiff,reduceIte,aw,q];exact M (by simp only[iD,aA.kind,i,Bool.false_and])
  |true=>
   cases d:(a.kind != 5)with
   |false=>
    simp-implicitDefEqProofs(disch:=try exact aj)only[reduceAdd,reduceLeDiff,reduceIte,aw,q,d];exact M (by simp only[iD,aA.kind,i,d,Bool.false_and,Bool.and_false])
   |true=>
    cases k:(a.kind != 6)with
    |false=>
     simp-implicitDefEqProofs(disch:=try exact aj)only[reduceAdd,reduceLeDiff,reduceIte,aw,q,d,k];exact M (by simp only[iD,aA.kind,i,d,k,Bool.and_false])
    |true=>
     simp-implicitDefEqProofs(disch:=try exact aj)only[reduceAdd,reduceLeDiff,reduceIte,aw,q,d,k];refine aP (ke O 2) ?_;rintro _ e ⟨rfl,m5,E⟩;refine⟨m5.1,?_⟩;exact fin e a ks kv (m.mut m5 af λ_ h=>h) (S.trans m5) (by rw[show iD (.mk a ks)=X by simp only[iD,aA.kind,i,d,k,Bool.and_self]];exact E.rd) (m5.get F af) (m5.get G af) (m5.get p af)
 |false=>
  have ax:∀l,b5 P l 41 1 [(0,.agg cs)]=D (.aB l 0 1 11 (D 1),.row U 11 [cs]):=λl=>jM l cs ab bO
  have ae:=F;simp only[b9.cells]at ae;simp-implicitDefEqProofs(disch:=try exact aj)only[jJ,reduceAdd,reduceLeDiff,reduceIte,aw,fe,Bool.not_false,ae,G,p,t1,ax,ad.gd];have z:∀l,l<c.next->l≠H.next->((c.set H.next (.row U 9 [b9.cells {kind:=9,pos:=pos} (.aB c.next 0 1 11 (D 1)) .ar .ar])).push (.row U 11 [cs])).get l=c.get l:=λl al am=>by simp-implicitDefEqProofs(disch:=try exact aj)only[dE]
  have m5:cb r H ((c.set H.next (.row U 9 [b9.cells {kind:=9,pos:=pos} (.aB c.next 0 1 11 (D 1)) .ar .ar])).push (.row U 11 [cs])):=(S.cE (.inr (bj _)) _).bE _;have d5:bH ((c.set H.next (.row U 9 [b9.cells {kind:=9,pos:=pos} (.aB c.next 0 1 11 (D 1)) .ar .ar])).push (.row U 11 [cs])) r ao aE.2:=by
   have h:=O.rd;have:=h.lt;unfold bH at h ⊢;rw[z r af af];exact h
  have R:cg ((c.set H.next (.row U 9 [b9.cells {kind:=9,pos:=pos} (.aB c.next 0 1 11 (D 1)) .ar .ar])).push (.row U 11 [cs])) (bk (H.next+2)) [aE.1] (.aB c.next 0 1 11 (D 1)):=
   cg.n5 (ro:=false) (by simp-implicitDefEqProofs(disch:=try exact aj)only[dE]) (by unfold bk;omega) (cw.a1 (λl ro els h g=>⟨by unfold bk;omega,by rw[z l af af];exact g⟩) _ _ m)
  have y:((c.set H.next (.row U 9 [b9.cells {kind:=9,pos:=pos} (.aB c.next 0 1 11 (D 1)) .ar .ar])).push (.row U 11 [cs])).get H.next=D (.row U 9 [b9.cells {kind:=9,pos:=pos} (.aB c.next 0 1 11 (D 1)) .ar .ar]):=by simp-implicitDefEqProofs(disch:=try exact aj)only[dE]
  have i:=(z (H.next+1) af af).trans G;have d:=(z j.next af af).trans p;simp only[b9.cells]at m5 d5 R y i d;generalize (c.set H.next (.row U 9 [[aa.int J 9,Z [],Z [],I J 0,.aB c.next 0 1 11 (D 1),.ar,.ar,I J pos,I J 0]])).push (.row U 11 [cs])=e at m5 d5 R y i d ⊢;have E:=w.mut m5 d5;refine aP (du d5 E.bJ [59] (by simp)) ?_;rintro _ L ⟨rfl,n⟩;refine⟨n.1,?_⟩;have fin:∀(o:ad) (ur:au),cb r L o->bH o r ao ur->W (nk (aD P ay) (.ptr r 0 0) (.ptr H.next 0 0) (.ptr (H.next+1) 0 0) o) (fz H r T ao (.mk {kind:=9,pos:=pos} [aE.1] [] []) (bo T [59] ur)):=λo ur m7 d7=>
   LY w ((m5.trans (n.mut _)).trans m7) d7 (R.a1 (c9.mut ((n.mut _).trans m7) (by unfold bk;omega) λ_ h=>h)) (m7.get (n.get y) af) (m7.get (n.get i) af)
  have Q:=E.aM n;cases an:aY T aE.2 [59]with
  |false=>
   simp-implicitDefEqProofs(disch:=try exact aj)only[reduceAdd,reduceLeDiff,reduceIte,aw];simp only[Bool.false_and,aR];exact fin L _ (c0.refl _ _) Q.rd
  |true=>
   have k:=n.get d;rcases N:aE.1 with⟨a,ks⟩;rw[N]at m fin;obtain⟨kv,u,-⟩:=hc.1 m;simp only[aa.agg.injEq]at u;subst u;simp only[bG.cells]at k;cases A:(a.kind != 7)with
   |false=>
    simp-implicitDefEqProofs(disch:=try exact aj)only[reduceAdd,reduceLeDiff,reduceIte,aw,k,A];simp only[aA.kind,A,Bool.and_false,aR];exact fin L _ (c0.refl _ _) Q.rd
   |true=>
    simp-implicitDefEqProofs(disch:=try exact aj)only[reduceAdd,reduceLeDiff,reduceIte,aw,k,A];simp only[aA.kind,A,Bool.and_self,aW];refine aP (ke Q 2) ?_;rintro _ o ⟨rfl,m7,ai⟩;refine⟨m7.1,?_⟩;exact fin o _ m7 ai.rd
def sB(n:Nat):Prop:=∀{H:ad} {r:Nat} {T:List Tok} {ao:aa} {s:au},T.length<=20000000->bQ H r T ao s->∀(e:bM) (s':au),qn T n s=D (e,s')->W (aD P ay 78 [.ptr r 0 0] H) (fz H r T ao e s')
def sw(n:Nat):Prop:=∀{H:ad} {r:Nat} {T:List Tok} {ao:aa} {s:au},T.length<=20000000->bQ H r T ao s->∀(l:List bM) (s':au),jv T n s=D (l,s')->W (aD P ay 56 [.ptr r 0 0] H) λv H'=>cb r H H'/\bQ H' r T ao s'/\c_ H' (bk H.next) l v
def Ev{M:Nat}{H0 H:ad}{r:Nat}{T:List Tok}{ao:aa}{s0 s:au}(a:bQ H0 r T ao s0)(c:cb r H0 H)(d:bH H r ao s){l:List bM}{v:aa}(e:c_ H (bk H0.next) l v):
  W (oF (aD P ay) M (.ptr r 0 0) v H) λj H'=>cb r H0 H'/\bQ H' r T ao (dc T [125] s)/\c_ H' (bk H0.next) l j:=by
 have k:=a.rd.lt;rw[oF];refine aP (pV (a.mut c d) [125] (by simp)) ?_;rintro _ H1 ⟨rfl,m1,i⟩;refine⟨m1.1,?_⟩;exact ba.2 ⟨c.trans m1,i,e.a1 (en.mut m1 (by unfold bk;omega) λ_ h=>h)⟩
def ER{N M:Nat}(E:∀k,k<N->sB k){H0:ad}{r:Nat}{T:List Tok}{ao:aa}{s0:au}(aK:T.length<=20000000)(j:bQ H0 r T ao s0):
  ∀(n m:Nat),n<=N->n<m->∀(H:ad) (s:au) (l:List bM) (v:aa),cb r H0 H->bH H r ao s->l.length+n<=1000000000->lh H0.next H l v->∀(l':List bM) (s':au),nY T n l s=D (l',s')->
   W (oG (aD P ay) M m (.ptr r 0 0) v H) λx H'=>cb r H0 H'/\bQ H' r T ao (dc T [125] s')/\c_ H' (bk H0.next) l' x
 |0,m,y,hm,H,s,l,v,d,i,hlen,o,l',s',h=>by simp[nY]at h
 |n+1,0,y,hm,H,s,l,v,d,i,hlen,o,l',s',h=>af
 |n+1,m+1,y,hm,H,s,l,v,d,i,hlen,o,l',s',h=>by
  have B:=j.rd.lt;have hle:=d.1;have u:=j.mut d i;simp only[nY]at h;simp only[oG];rw[ui];refine aP (kf i) ?_;rintro _ H1 ⟨rfl,rfl⟩;refine⟨bj _,?_⟩;by_cases z:s.aG=0
  ·have a:(s.aG==0)=true:=by simp[z]
   simp-implicitDefEqProofs(disch:=try exact aj)only[reduceAdd,reduceLeDiff,reduceIte,aw,a];refine iA (du i u.bJ [125] (by simp)) ?_;rintro _ ak ⟨rfl,e⟩;refine⟨e.1,?_⟩;have q:=o.mut (e.mut (· =r)) B;cases A:aY T s [125]with
   |true=>
    simp only[a,A,Bool.not_true,Bool.and_false,aR,aV,b4]at h;obtain⟨rfl,rfl⟩:=h;simp-implicitDefEqProofs(disch:=try exact aj)only[reduceAdd,reduceLeDiff,reduceIte,aw,a,Bool.not_true,Bool.not_false];exact Ev j (d.trans (e.mut _)) (u.aM e).rd q.FH
   |false=>
    simp only[a,A,Bool.not_false,Bool.and_self,aW,cZ]at h;obtain⟨⟨an,s1⟩,K,O⟩:=h;simp-implicitDefEqProofs(disch:=try exact aj)only[reduceAdd,reduceLeDiff,reduceIte,aw,a,Bool.not_true,Bool.not_false];refine aP (E n af aK (u.aM e) an s1 K) ?_;rintro w al ⟨m3,ag,he⟩;refine⟨m3.1,?_⟩;obtain⟨cs,rfl,G,bO⟩:=he.cells;have S:=q.mut m3 B;have ap:=m3.1;have n2:=e.1;obtain⟨x,H',Q,R,F,am⟩:=S.app he af (λL k c p=>by
     rcases q with⟨a6,_⟩|⟨L',els,a6,ai,_⟩
     ·rw[a6]at p;cases p
     ·rw[a6]at p;cases p;exact ad.aS ai) af af
    have ax:=λl=>O4 l cs G bO
    simp-implicitDefEqProofs(disch:=try exact aj)only[reduceAdd,reduceLeDiff,reduceIte,aw,ax,Q,eZ];have ah:cb r H0 H':=⟨by have:=d.1;omega,λk V ab=>by
     rw[F.2 k af af];exact((d.trans (e.mut _)).trans m3).2 k V ab⟩
    have ae:bH H' r ao s1:=F.get ag.rd af;exact ER E aK j n m af af H' s1 (l++[an]) x ah ae (by simp only[List.length_append,List.length_cons,List.length_nil];omega) R l' s' O
  ·have a:(s.aG==0)=false:=by simpa using z
   simp only[a,Bool.false_and,aR,aV,b4]at h;obtain⟨rfl,rfl⟩:=h;simp-implicitDefEqProofs(disch:=try exact aj)only[reduceAdd,reduceLeDiff,reduceIte,aw,a,Bool.not_true];exact Ev j d i o.FH
def LB{n:Nat}(e:n<=1000000000)(j:∀k,k<n->sB k):sw (n+1):=by
 intro H r T ao s aK c l s' h;refine cF (λ_=>My (n+1)) ?_;simp only[jv,cZ]at h;obtain⟨⟨m,s1⟩,d,a⟩:=h;simp only[aV,b4]at a;obtain⟨rfl,rfl⟩:=a;rw[uh];refine aP (pY c [123] (by simp)) ?_;rintro _ H1 ⟨rfl,m1,i⟩;refine⟨m1.1,?_⟩;exact ER j aK c n (n+1) (bj _) af H1 _ [] .ar m1 i.rd (by simpa using e) (.inl ⟨rfl,rfl⟩) m s1 d
structure ff(H0 H:ad)(r b3 cY:Nat)(ao:aa)(t:Tok)(s:au)(c:List aa):Prop where
 m:cb r H0 H
 rd:bH H r ao s
 g2:H.get H0.next=some (.row false 9 [[.int .i64 0,.str [],.str [],.int .i64 0,.ar,.ar,.ar,.int .i64 0,.int .i64 0]])
 g3:H.get b3=some (.row false 4 [[.int .i64 t.kind,.str t.text,.int .i64 t.n,.int .i64 t.pos]])
 g4:H.get cY=some (.row false 9 [c])
 dV:H0.next<b3
 fk:b3<cY
def ff.mut{H0 H H':ad}{r b3 cY:Nat}{ao:aa}{t:Tok}{s s':au}{c:List aa}(h:ff H0 H r b3 cY ao t s c)(d:r<H0.next)(m:cb r H H')(a:bH H' r ao s'):ff H0 H' r b3 cY ao t s' c:=
 ⟨h.m.trans m,a,m.get h.g2 af,m.get h.g3 (by have:=h.dV;omega),m.get h.g4 (by have:=h.dV;have:=h.fk;omega),h.dV,h.fk⟩
def ff.set{H0 H:ad}{r b3 cY:Nat}{ao:aa}{t:Tok}{s:au}{c:List aa}(h:ff H0 H r b3 cY ao t s c)(e:r<H0.next)(c':List aa):ff H0 (H.set cY (.row U 9 [c'])) r b3 cY ao t s c':=by
 have a:=h.dV;have d:=h.fk;refine⟨h.m.cE (.inr af) _,?_,?_,?_,ad.get_set_same (ad.aS h.g4),a,d⟩
 ·have:=h.rd;unfold bH at this ⊢;rw[ad.get_set_other af];exact this
 ·rw[ad.get_set_other af];exact h.g2
 ·rw[ad.get_set_other af];exact h.g3
def ff.push{H0 H:ad}{r b3 cY:Nat}{ao:aa}{t:Tok}{s:au}{c:List aa}(h:ff H0 H r b3 cY ao t s c)(d:r<H0.next)(a:bW):ff H0 (H.push a) r b3 cY ao t s c:=
 h.mut d ((aO.push H a).mut _) (h.rd.aM (aO.push H a))
section
variable {H0 H:ad}{r b3 cY:Nat}{T:List Tok}{ao:aa}{s0 s:au}{t:Tok}
def pZ(k:bQ H0 r T ao s0){a:b9}{es:List aA}{c d:List bM}{cc bv e:aa}(b:ff H0 H r b3 cY ao t s (a.cells cc bv e))(h:cg H (bk (cY+1)) es cc)(i:c_ H (bk (cY+1)) c bv)(j:c_ H (bk (cY+1)) d e):
  W (gL (aD P ay) (.ptr H0.next 0 0) (.ptr cY 0 0) H) (fz H0 r T ao (.mk a es c d) s):=by
 have bO:=h.ej;have b2:=i.ej;have cz:=j.ej;have g2:=b.g2;have g3:=b.g4;have l:=ad.aS g2;have n:=b.dV;have o:=b.fk;simp only[b9.cells]at g3;simp-implicitDefEqProofs(disch:=try exact aj)only[gL,reduceAdd,reduceLeDiff,reduceIte,aw,fe,g2,g3,bO,b2,cz];exact ba.2 (fz.fin (a:=a) k b.m b.rd h i j (bj _) af _)
def ff.expr(a:r<H0.next){e:aA}{cs c c':List aa}{L:Nat}(b:ff H0 H r b3 cY ao t s c)(he:cw H (bk (cY+1)) e (.agg cs))(d:L=H.next):ff H0 ((H.set cY (.row U 9 [c'])).push (.row U 11 [cs])) r b3 cY ao t s c'/\cg ((H.set cY (.row U 9 [c'])).push (.row U 11 [cs])) (bk (cY+1)) [e] (.aB L 0 1 11 (D 1)):=by
 subst d;have i:=ad.aS b.g4;refine⟨(b.set a c').push a _,cg.n5 (ro:=false) ?_ (by unfold bk;omega) (cw.a1 ?_ e _ he)⟩
 ·exact ad.bI (H.set cY (.row U 9 [c'])) _
 ·intro l ro els h g;refine⟨h,?_⟩;unfold bk at h;exact(aO.push _ _).get (by rw[ad.get_set_other af];exact g)
def EB(c:bQ H0 r T ao s0){a:b9}{es:List aA}{cc:aa}(b:ff H0 H r b3 cY ao t s (a.cells cc .ar .ar))(d:cg H (bk (cY+1)) es cc):
  W (oM (aD P ay) (.ptr r 0 0) (.ptr H0.next 0 0) (.ptr cY 0 0) H) (fz H0 r T ao (.mk a es [] []) (bo T [59] s)):=by
 have e:=c.rd.lt;have j:=b.dV;have k:=b.fk;rw[oM];refine aP (gO (c.mut b.m b.rd) [59] (by simp)) ?_;rintro _ H1 ⟨rfl,m1,i⟩;refine⟨m1.1,?_⟩;exact pZ c (b.mut e m1 i.rd) (d.a1 (c9.mut m1 (by unfold bk;omega) λ_ h=>h)) (c_.nil _ _) (c_.nil _ _)
def E2(c:bQ H0 r T ao s0){a:b9}{es:List aA}{cc:aa}(b:ff H0 H r b3 cY ao t s (a.cells cc .ar .ar))(d:cg H (bk (cY+1)) es cc):
  W (oN (aD P ay) (.ptr r 0 0) (.ptr H0.next 0 0) (.ptr cY 0 0) H) (fz H0 r T ao (.mk a es [] []) (bo T [59] s)):=by
 have e:=c.rd.lt;have j:=b.dV;have k:=b.fk;rw[oN];refine aP (gO (c.mut b.m b.rd) [59] (by simp)) ?_;rintro _ H1 ⟨rfl,m1,i⟩;refine⟨m1.1,?_⟩;exact pZ c (b.mut e m1 i.rd) (d.a1 (c9.mut m1 (by unfold bk;omega) λ_ h=>h)) (c_.nil _ _) (c_.nil _ _)
