/-
  Texts of one proof, laid together: ShPa Re Rf Rg ShT V1 V2.
-/
import Derived.Test.YtghmbpmaafnodaaDoorMP
set_option linter.unusedVariables false
set_option linter.unusedSimpArgs false
set_option linter.defProp false
open Option renaming some→D,none→Z
open Bool renaming true→X,false→U
open Go.b9.aa renaming int→I,str→Y,bool→C
open Go.IntKind renaming i64→J
namespace Go.Proofs.YtghmbpmaafnodaaDoor
open Go.b9
open Nat (reduceAdd reduceLeDiff)
section
set_option maxRecDepth 100000
noncomputable section
def l_(G:az)(N:Nat)(e h:aa)(bo q:aa)(H:ad):O:=aH H (G 21 [bo] H) λm d=>j (ff .not m) λn=>aW (D n) (a7 d (aV P d 26 e (.agg [aa.ar,aa.ar,aa.ar])) λa=>j (bW bo) λo=>j (aI P 59 o 3) λk=>j (an P a 29 k) λl=>a7 a (aV P a 29 h l) λc=>bif ((bh (an P d 29 k) l&&(bh (an P a 29 k) l&&X))&&X)then(j (an P c 26 e) λr=>j (an P c 29 h) λi=>D (.tuple [r,i],c))else Z) (j (an P d 26 q) λp=>a7 d (aV P d 26 e p) λa=>a7 a (aV P a 29 h (.agg [I J 0,I J 0])) λc=>j (an P c 26 e) λr=>j (an P c 29 h) λi=>D (.tuple [r,i],c))
def LV(G:az)(N:Nat):∀ae H,bp P G N (ak (ak (ak (ak (ak (ak (bs Tryd.f9))))))) (bk Tryd.f9) [] (bk Tryd.f9) ae H=l_ G N (ae 2) (ae 3) (ae 6) (ae 7) H:=by
 refine bL (aJ _) λae H=> ?_
 delta l_;kernel_rfl
def je(G:az)(N:Nat)(l:aa->aa->aa->aa->ad->O)(n o:aa)(bo e M:aa)(H:ad):O:=aW (D M) (aH H (G 24 [bo,I J 4] H) λaE k=>l n o bo e k) (aH H (G 23 [bo,Y [114,101,99,111,114,100]] H) λQ k=>aW (D Q) (j (bW bo) λR=>j (aI P 59 R 1) λS=>j (an P k 3 S) λT=>j (aq P .add 3 X T (I J 1)) λV=>j (bW bo) λW=>j (aI P 59 W 1) λab=>a7 k (aV P k 3 ab V) λh=>aH h (G 25 [bo] h) λae a=>j (aI P 26 e 0) λs=>j (an P a 22 s) λu=>bS a (bV P (a).next 22 1 [(0,ae)]) λaf c=>aH c (cQ P c [22,22] u af) λag d=>j (aI P 26 e 0) λah=>a7 d (aV P d 22 ah ag) λi=>bif ((bh (an P h 22 s) u&&(bh (an P a 22 s) u&&(bh (an P c 22 s) u&&X)))&&X)then(l n o bo e i)else Z) (aH k (G 23 [bo,Y [103,108,111,98,97,108]] k) λai h=>aW (D ai) (j (bW bo) λaj=>j (aI P 59 aj 1) λak=>j (an P h 3 ak) λal=>j (aq P .add 3 X al (I J 1)) λam=>j (bW bo) λao=>j (aI P 59 ao 1) λap=>a7 h (aV P h 3 ap am) λa=>aH a (G 26 [bo] a) λau c=>j (aI P 26 e 1) λv=>j (an P c 23 v) λw=>bS c (bV P (c).next 23 1 [(0,au)]) λav d=>aH d (cQ P d [23,23] w av) λaw i=>j (aI P 26 e 1) λax=>a7 i (aV P i 23 ax aw) λm=>bif ((bh (an P a 23 v) w&&(bh (an P c 23 v) w&&(bh (an P d 23 v) w&&X)))&&X)then(aH m (G 27 [bo,Y [59]] m) λaF x=>l n o bo e x)else Z) (aH h (G 23 [bo,Y [102,117,110,99]] h) λay a=>aW (D ay) (j (bW bo) λaB=>j (aI P 59 aB 1) λaC=>j (an P a 3 aC) λy=>j (aq P .add 3 X y (I J 1)) λz=>j (bW bo) λA=>j (aI P 59 A 1) λB=>a7 a (aV P a 3 B z) λc=>aH c (G 28 [bo] c) λE d=>j (aI P 26 e 2) λp=>j (an P d 24 p) λq=>bS d (bV P (d).next 24 1 [(0,E)]) λF i=>aH i (cQ P i [24,24] q F) λK m=>j (aI P 26 e 2) λL=>a7 m (aV P m 24 L K) λx=>bif ((bh (an P c 24 p) q&&(bh (an P d 24 p) q&&(bh (an P i 24 p) q&&X)))&&X)then(l n o bo e x)else Z) (aH a (G 24 [bo,I J 2] a) λaD c=>l n o bo e c))))
def LW(G:az)(N:Nat)(a:aa->aa->aa->aa->ad->O):∀ae H,bp P G N (ak (a6 (a6 (ak (a6 (a6 (a6 (ak (ak (ak (ak (ak (bs Tryd.f9))))))))))))) (λae H=>a (ae 2) (ae 3) (ae 6) (ae 7) H) [(2,(λae H=>a (ae 2) (ae 3) (ae 6) (ae 7) H)),(1,(λae H=>a (ae 2) (ae 3) (ae 6) (ae 7) H)),(0,(λae H=>l_ G N (ae 2) (ae 3) (ae 6) (ae 7) H))] (bk Tryd.f9) ae H=je G N a (ae 2) (ae 3) (ae 6) (ae 7) (ae 31) H:=by
 refine bL (aJ _) λae H=> ?_
 delta je;kernel_rfl
def sQ(G:az)(N:Nat)(l:aa->aa->aa->aa->ad->O)(i k:aa)(bo a:aa)(H:ad):O:=aH H (G 21 [bo] H) λc K=>aQ c X K (ca bo) λae o=>aQ c X o (λq=>eL o (G 22 [ae] o) q) λaf T=>aQ c X T (bz (cA P 61 af 0)) λag V=>aQ c X V (bz (aq P .neq 3 X ag (I J 0))) λah p=>j (cD c (D ah) (D (C U))) λai=>aW (D ai) (aH p (G 23 [bo,Y [114,101,99,111,114,100]] p) λd W=>aQ d X W (bz (aI P 26 a 0)) λaj x=>aQ d X x (qr (an P x 22 aj)) λz y=>aQ d X y (λq=>gj (bZ P .empty .len [22] [z]) (bZ P y .len [22] [z]) q) λak ab=>aQ d X ab (bz (aq P .eql 3 X ak (I J 12))) λal m=>j (cD d (D al) (D (C U))) λA=>aW (D A) (je G N l i k bo a A m) (aH m (G 23 [bo,Y [103,108,111,98,97,108]] m) λe L=>aQ e X L (bz (aI P 26 a 1)) λam s=>aQ e X s (qr (an P s 23 am)) λB u=>aQ e X u (λq=>gj (bZ P .empty .len [23] [B]) (bZ P u .len [23] [B]) q) λao M=>aQ e X M (bz (aq P .eql 3 X ao (I J 8))) λap n=>j (cD e (D ap) (D (C U))) λE=>aW (D E) (je G N l i k bo a E n) (aH n (G 23 [bo,Y [102,117,110,99]] n) λh Q=>aQ h X Q (bz (aI P 26 a 2)) λau v=>aQ h X v (qr (an P v 24 au)) λF w=>aQ h X w (λq=>gj (bZ P .empty .len [24] [F]) (bZ P w .len [24] [F]) q) λav R=>aQ h X R (bz (aq P .eql 3 X av (I J 16))) λaw S=>j (cD h (D aw) (D (C U))) λax=>je G N l i k bo a ax S))) (l_ G N i k bo a p)
def la(G:az)(N:Nat):Nat->aa->aa->aa->aa->ad->O
 |0,_,_,_,_,_=>Z
 |n+1,a,c,bo,d,H=>sQ G N (la G N n) a c bo d H
def LU(G:az)(N:Nat)(a:aa->aa->aa->aa->ad->O):∀ae H,bp P G N (a6 (a6 (a6 (ak (ak (ak (ak (ak (bs Tryd.f9))))))))) (λae H=>a (ae 2) (ae 3) (ae 6) (ae 7) H) [(0,(λae H=>l_ G N (ae 2) (ae 3) (ae 6) (ae 7) H))] (bk Tryd.f9) ae H=sQ G N a (ae 2) (ae 3) (ae 6) (ae 7) H:=by
 refine bL ((aP ah ((dc ah ((dc ah ((aP ah (LW G N a) (aJ _))))))) (aJ _))) λae H=> ?_
 delta sQ;generalize l_ G N=c;generalize je G N a=d;revert c d;refine id ?_;intro c d;kernel_rfl
def qQ(G:az)(N:Nat)(ag:aa)(H:ad):O:=cf H [aa.ar,aa.ar,aa.ar] λi o=>cf o [I J 0,I J 0] λk l=>aH l (G 14 [ag] l) λn p=>j (eg n 0) λs=>j (eg n 1) λu=>cf p [I J 0,I J 0] λe m=>a7 m (aV P m 29 e u) λa=>j (aI P 29 e 0) λv=>j (an P a 27 v) λw=>j (aq P .neq 27 X w (I J 0)) λx=>aW (D x) (a7 a (aV P a 26 i (.agg [aa.ar,aa.ar,aa.ar])) λc=>j (an P c 29 e) λh=>a7 c (aV P c 29 k h) λd=>bif ((bh (an P a 29 e) h&&(bh (an P c 29 e) h&&X))&&X)then(j (an P d 26 i) λr=>j (an P d 29 k) λq=>D (.tuple [r,q],d))else Z) (j (ch P 59 [(0,s)]) λy=>bS a (dS (a).next y) λz c=>cf c [aa.ar,aa.ar,aa.ar] λA d=>la G N N i k z A d)
def Kb(N:Nat){ag:aa}{H:ad}{r:aa×ad}(h:qQ (aC P ay) N ag H=D r):aC P ay 9 [ag] H=D r:=cO N (S:=λG=>qQ G N ag H) Tryd.func9 (λG=>dN ((aP ah ((aP ah ((aP ah ((aP ah ((aP ah ((aP ah (LV G N) ((dc ah ((ei (k:=λm ae H=>la G N m (ae 2) (ae 3) (ae 6) (ae 7) H) ah (λae H=>ah) (λm=>LU G N (la G N m)))))))) (aJ _))) (aJ _))) (aJ _))) (aJ _))) (aJ _))) (by delta qQ;generalize la G N N=a;revert a;refine id ?_;intro a;kernel_rfl)) h
def kY(G:az)(N:Nat)(ag d e:aa)(H:ad):O:=aH H (G 27 [ag,Y [125]] H) λi a=>j (an P a 65 e) λh=>a7 a (aV P a 65 d h) λc=>j (an P c 65 d) λr=>D (r,c)
def KF(G:az)(N:Nat):∀ae H,bp P G N (ak (ak (ak (ak (ak (bs Tryd.f25)))))) (bk Tryd.f25) [] (bk Tryd.f25) ae H=kY G N (ae 0) (ae 2) (ae 3) H:=by
 refine bL (aJ _) λae H=> ?_
 delta kY;kernel_rfl
def so(G:az)(N:Nat)(x:aa->aa->aa->ad->O)(ag o c:aa)(H:ad):O:=aH H (G 21 [ag] H) λh y=>aQ h X y (ca ag) λbx m=>aQ h X m (λq=>eL m (G 23 [bx,Y [125]] m) q) λF A=>aQ h X A (bz (ff .not F)) λK n=>j (cD h (D K) (D (C U))) λL=>aW (D L) (aH n (G 22 [ag] n) λM B=>j (cA P 61 M 0) λQ=>j (aq P .eql 3 X Q (I J 1)) λe=>aQ e X B (bz (aI P 65 c 1)) λR u=>aQ e X u (qr (an P u 23 R)) λw v=>aQ e X v (λq=>gj (bZ P .empty .len [23] [w]) (bZ P v .len [23] [w]) q) λS E=>aQ e X E (bz (aq P .eql 3 X S (I J 8))) λT d=>j (cD e (D T) (D (C U))) λV=>aW (D V) (aH d (G 24 [ag,I J 4] d) λah a=>kY G N ag o c a) (aH d (G 26 [ag] d) λW a=>j (aI P 65 c 1) λi=>j (an P a 23 i) λk=>bS a (bV P (a).next 23 1 [(0,W)]) λab l=>aH l (cQ P l [23,23] k ab) λae p=>j (aI P 65 c 1) λaf=>a7 p (aV P p 23 af ae) λs=>bif ((bh (an P d 23 i) k&&(bh (an P a 23 i) k&&(bh (an P l 23 i) k&&X)))&&X)then(aH s (G 27 [ag,Y [59]] s) λai z=>x ag o c z)else Z)) (kY G N ag o c n)
def lR(G:az)(N:Nat):Nat->aa->aa->aa->ad->O
 |0,_,_,_,_=>Z
 |n+1,ag,a,c,H=>so G N (lR G N n) ag a c H
def KE(G:az)(N:Nat)(c:aa->aa->aa->ad->O):∀ae H,bp P G N (a6 (a6 (a6 (ak (ak (ak (ak (bs Tryd.f25)))))))) (λae H=>c (ae 0) (ae 2) (ae 3) H) [(0,(λae H=>kY G N (ae 0) (ae 2) (ae 3) H))] (bk Tryd.f25) ae H=so G N c (ae 0) (ae 2) (ae 3) H:=by
 refine bL (aJ _) λae H=> ?_
 delta so;generalize kY G N=a;revert a;refine id ?_;intro a;kernel_rfl
def sn(G:az)(N:Nat)(ag:aa)(H:ad):O:=cf H [Y [],aa.ar,I J 0] λn c=>aH c (G 22 [ag] c) λo k=>j (cA P 61 o 3) λbo=>j (ch P 65 [(2,bo)]) λp=>cf k [Y [],aa.ar,I J 0] λa d=>a7 d (aV P d 65 a p) λe=>aH e (G 55 [ag] e) λq h=>j (aI P 65 a 0) λm=>a7 h (aV P h 9 m q) λi=>aH i (G 27 [ag,Y [123]] i) λs l=>lR G N N ag n a l
def Jx(N:Nat){ag:aa}{H:ad}{r:aa×ad}(h:sn (aC P ay) N ag H=D r):aC P ay 25 [ag] H=D r:=cO N (S:=λG=>sn G N ag H) Tryd.func25 (λG=>dN ((aP ah ((aP ah ((aP ah ((aP ah ((aP ah (KF G N) ((dc ah ((ei (k:=λm ae H=>lR G N m (ae 0) (ae 2) (ae 3) H) ah (λae H=>ah) (λm=>KE G N (lR G N m)))))))) (aJ _))) (aJ _))) (aJ _))) (aJ _))) (by delta sn;generalize lR G N N=a;revert a;refine id ?_;intro a;kernel_rfl)) h
def sq(G:az)(ag:aa)(H:ad):O:=cf H [Y [],Y [],I J 0,I J 0] λo d=>aH d (G 22 [ag] d) λv p=>j (cA P 61 v 3) λbo=>j (ch P 68 [(2,bo)]) λw=>cf p [Y [],Y [],I J 0,I J 0] λa h=>a7 h (aV P h 68 a w) λi=>aH i (G 55 [ag] i) λx k=>j (aI P 68 a 0) λq=>a7 k (aV P k 9 q x) λl=>aH l (G 27 [ag,Y [58]] l) λy m=>aH m (G 53 [ag] m) λs n=>j (aI P 68 a 1) λu=>a7 n (aV P n 40 u s) λc=>j (an P c 68 a) λbx=>a7 c (aV P c 68 o bx) λe=>j (an P e 68 o) λr=>D (r,e)
def Jy(N:Nat){ag:aa}{H:ad}{r:aa×ad}(h:sq (aC P ay) ag H=D r):aC P ay 26 [ag] H=D r:=cO N (S:=λG=>sq G ag H) Tryd.func26 (λ_=>by delta sq;kernel_rfl) h
def nm(G:az)(N:Nat)(ag e h:aa)(H:ad):O:=aH H (G 56 [ag] H) λi c=>j (aI P 73 h 4) λk=>a7 c (aV P c 71 k i) λa=>j (an P a 73 h) λl=>a7 a (aV P a 73 e l) λd=>j (an P d 73 e) λr=>D (r,d)
def KI(G:az)(N:Nat):∀ae H,bp P G N (ak (ak (ak (ak (ak (ak (ak (bs Tryd.f28)))))))) (bk Tryd.f28) [] (bk Tryd.f28) ae H=nm G N (ae 0) (ae 2) (ae 3) H:=by
 refine bL (aJ _) λae H=> ?_
 delta nm;kernel_rfl
def kh(G:az)(N:Nat)(ag k c:aa)(H:ad):O:=aH H (G 27 [ag,Y [41]] H) λy d=>aH d (G 23 [ag,Y [58]] d) λm a=>aW (D m) (j (bW ag) λn=>j (aI P 59 n 1) λo=>j (an P a 3 o) λp=>j (aq P .add 3 X p (I J 1)) λq=>j (bW ag) λs=>j (aI P 59 s 1) λu=>a7 a (aV P a 3 u q) λe=>j (aI P 73 c 2) λv=>a7 e (aV P e 4 v (C X)) λh=>aH h (G 53 [ag] h) λw i=>j (aI P 73 c 3) λx=>a7 i (aV P i 40 x w) λl=>nm G N ag k c l) (nm G N ag k c a)
def KH(G:az)(N:Nat):∀ae H,bp P G N (ak (ak (ak (ak (ak (bs Tryd.f28)))))) (bk Tryd.f28) [] (bk Tryd.f28) ae H=kh G N (ae 0) (ae 2) (ae 3) H:=by
 refine bL ((aP ah ((aP ah (KI G N) (aJ _))) (aJ _))) λae H=> ?_
 delta kh;generalize nm G N=a;revert a;refine id ?_;intro a;kernel_rfl
def ss(G:az)(N:Nat)(m:aa->aa->aa->ad->O)(ag e a:aa)(H:ad):O:=aH H (G 21 [ag] H) λi B=>aQ i X B (ca ag) λbx s=>aQ i X s (λq=>eL s (G 23 [bx,Y [41]] s) q) λM F=>aQ i X F (bz (ff .not M)) λQ u=>j (cD i (D Q) (D (C U))) λR=>aW (D R) (aH u (G 22 [ag] u) λS K=>j (cA P 61 S 0) λT=>j (aq P .eql 3 X T (I J 1)) λh=>aQ h X K (bz (aI P 73 a 1)) λV y=>aQ h X y (qr (an P y 23 V)) λA z=>aQ h X z (λq=>gj (bZ P .empty .len [23] [A]) (bZ P z .len [23] [A]) q) λW L=>aQ h X L (bz (aq P .eql 3 X W (I J 6))) λab d=>j (cD h (D ab) (D (C U))) λae=>aW (D ae) (aH d (G 24 [ag,I J 4] d) λao c=>kh G N ag e a c) (aH d (G 26 [ag] d) λaf c=>j (aI P 73 a 1) λk=>j (an P c 23 k) λl=>bS c (bV P (c).next 23 1 [(0,af)]) λah n=>aH n (cQ P n [23,23] l ah) λai v=>j (aI P 73 a 1) λaj=>a7 v (aV P v 23 aj ai) λw=>bif ((bh (an P d 23 k) l&&(bh (an P c 23 k) l&&(bh (an P n 23 k) l&&X)))&&X)then(aH w (G 23 [ag,Y [41]] w) λak o=>j (ff .not ak) λal=>aW (D al) (aH o (G 27 [ag,Y [44]] o) λap x=>aH x (G 23 [ag,Y [41]] x) λam p=>aW (D am) (aH p (G 24 [ag,I J 2] p) λau E=>m ag e a E) (m ag e a p)) (m ag e a o))else Z)) (kh G N ag e a u)
def ki(G:az)(N:Nat):Nat->aa->aa->aa->ad->O
 |0,_,_,_,_=>Z
 |n+1,ag,a,c,H=>ss G N (ki G N n) ag a c H
def KG(G:az)(N:Nat)(c:aa->aa->aa->ad->O):∀ae H,bp P G N (a6 (a6 (a6 (ak (ak (ak (ak (bs Tryd.f28)))))))) (λae H=>c (ae 0) (ae 2) (ae 3) H) [(0,(λae H=>kh G N (ae 0) (ae 2) (ae 3) H))] (bk Tryd.f28) ae H=ss G N c (ae 0) (ae 2) (ae 3) H:=by
 refine bL (aJ _) λae H=> ?_
 delta ss;generalize kh G N=a;revert a;refine id ?_;intro a;kernel_rfl
def sr(G:az)(N:Nat)(ag:aa)(H:ad):O:=cf H [Y [],aa.ar,C U,Y [],I J 0,aa.ar,I J 0] λn c=>aH c (G 22 [ag] c) λo k=>j (cA P 61 o 3) λbo=>j (ch P 73 [(5,bo)]) λp=>cf k [Y [],aa.ar,C U,Y [],I J 0,aa.ar,I J 0] λa d=>a7 d (aV P d 73 a p) λe=>aH e (G 55 [ag] e) λq h=>j (aI P 73 a 0) λm=>a7 h (aV P h 9 m q) λi=>aH i (G 27 [ag,Y [40]] i) λs l=>ki G N N ag n a l
def JA(N:Nat){ag:aa}{H:ad}{r:aa×ad}(h:sr (aC P ay) N ag H=D r):aC P ay 28 [ag] H=D r:=cO N (S:=λG=>sr G N ag H) Tryd.func28 (λG=>dN ((aP ah ((aP ah ((aP ah ((aP ah ((aP ah (KH G N) ((dc ah ((ei (k:=λm ae H=>ki G N m (ae 0) (ae 2) (ae 3) H) ah (λae H=>ah) (λm=>KG G N (ki G N m)))))))) (aJ _))) (aJ _))) (aJ _))) (aJ _))) (by delta sr;generalize ki G N N=a;revert a;refine id ?_;intro a;kernel_rfl)) h
end
end
section
variable {H H':ad}{r:Nat}{T:List Tok}{ao:aa}{s s':av}
def vH(h:bI H r T ao s):W (aC P ay 26 [.ptr r 0 0] H) λv H'=>v= .agg (dD T s).1.cells/\b5 r H H'/\bI H' r T ao (dD T s).2:=by
 refine cz (λ_=>Jy 0) ?_;have ap:=h.rd.lt;have c:=aO.push H (.row U 4 [[Y [],Y [],I J 0,I J 0]]);have G:=ad.bC H (.row U 4 [[Y [],Y [],I J 0,I J 0]]);simp-implicitDefEqProofs(disch:=try exact al)only[sq,bg,br,List.length_cons,List.length_nil,Nat.zero_add,Nat.reduceAdd];refine aN (hv (h.rd.aM c) (h.aM c).bA) ?_;rintro _ H1 ⟨rfl,a⟩;refine⟨a.1,?_⟩;have ae:=a.1;simp only[ad.bT]at ae;have E:=(h.aM c).aM a;have K:=a.get G;unfold dD dX;generalize au T s.at_=q;obtain⟨k,x,z,p⟩:=q;have j:=aO.push H1 (.row U 4 [[Y [],Y [],I J 0,I J p]]);have O:=ad.bC H1 (.row U 4 [[Y [],Y [],I J 0,I J p]])
 simp-implicitDefEqProofs(disch:=try exact al)only[bg,br,dR,an,cy,aV,cy,Nat.reduceAdd,Nat.reduceLeDiff,reduceIte,aa.cells,cE,dz,du,ad.hr,Tok.v];refine aN (lL (E.aM j)) ?_;rintro _ m ⟨rfl,m3,e⟩;refine⟨m3.1,?_⟩;have ag:=m3.1;simp only[ad.bT]at ag;have L:=m3.get (j.get K) af;have u:=m3.get O af;have dI:=ad.aR u;generalize bu T s=ai at e ⊢;obtain⟨cg,e4⟩:=ai;simp only at e ⊢;have S:=((((c.mut (· =r)).trans (a.mut _)).trans (j.mut _)).trans m3);have A:=S.cv (l:=H1.next) (.inr af) (.row U 4 [[Y cg,Y [],I J 0,I J p]]);have F:=h.mut A (show bw _ r ao e4 by unfold bw;rw[ad.get_set_other af];exact e.rd)
 have M:(m.set H1.next (.row U 4 [[Y cg,Y [],I J 0,I J p]])).get H.next=D (.row U 4 [[Y [],Y [],I J 0,I J 0]]):=by rw[ad.get_set_other af];exact L
 have Q:(m.set H1.next (.row U 4 [[Y cg,Y [],I J 0,I J p]])).get H1.next=D (.row U 4 [[Y cg,Y [],I J 0,I J p]]):=ad.get_set_same dI
 simp-implicitDefEqProofs(disch:=try exact al)only[bg,br,dR,an,cy,aV,cy,Nat.reduceAdd,Nat.reduceLeDiff,reduceIte,aa.cells,cE,dz,du,u];refine aN (gi F [58] (by simp)) ?_;rintro _ ak ⟨rfl,m5,n⟩;refine⟨m5.1,?_⟩;have ah:=m5.1;simp only[ad.dj]at ah;have N:=m5.get M af;have R:=m5.get Q af;generalize bl T [58] e4=aj at n ⊢;simp-implicitDefEqProofs(disch:=try exact al)only[bg,br];refine aN (qG n) ?_;rintro _ am ⟨rfl,m6,i⟩;refine⟨m6.1,?_⟩;have aw:=m6.1;have o:=m6.get N af;have w:=m6.get R af;have aq:=ad.aR o;have av:=ad.aR w;generalize cM T aj=ai at i ⊢;obtain⟨⟨y,d⟩,az⟩:=ai;simp only at i ⊢;have V:=(A.trans m5).trans m6
 have ab:=V.cv (l:=H1.next) (.inr af) (.row U 4 [[Y cg,Y y,I J d,I J p]]);have B:=ab.cv (l:=H.next) (.inr (bj _)) (.row U 4 [[Y cg,Y y,I J d,I J p]]);simp-implicitDefEqProofs(disch:=try exact al)only[reduceAdd,reduceLeDiff,reduceIte,ax,o,w];exact bb.2 ⟨rfl,B,h.mut B (by unfold bw;rw[ad.get_set_other af,ad.get_set_other af];exact i.rd)⟩
end
section
variable {H H' H1:ad}{r:Nat}{T:List Tok}{ao:aa}{s s':av}
def bI.mG{s0:av}(h:bI H1 r T ao s0)(m:hY r H1.next H1 H')(a:bw H' r ao s'):bI H' r T ao s':=
 ⟨a,h.bA.aX λl ro els e=>m.get e (by
  have:=ad.aR e;rintro(rfl|c)
  ·rw[h.rd]at e;simp only[aU,bO.row.injEq]at e;omega
  ·omega)⟩
structure fC(H1 H:ad)(r b c n2 esz:Nat)(T:List Tok)(ao:aa)(z:List aa)(x:aa)(rest:List aa)(l:List b7)(v:aa)(s:av):Prop where
 cC:bI H r T ao s
 two:H.get b=some (.row false esz [z])
 cell:H.get c=some (.row false esz [x::v::rest])
 gl:c0 fF (bf n2) H l v
 m:hY r H1.next H1 H
 bH:r<H1.next
 bX:H1.next<=b
 iE:b<c
 cj:c<n2
 dq:n2<=H.next
variable {b c n2 esz:Nat}{z:List aa}{x:aa}{rest:List aa}{l:List b7}{v:aa}
def fC.mut(h:fC H1 H r b c n2 esz T ao z x rest l v s)(m:b5 r H H')(cC:bI H' r T ao s'):fC H1 H' r b c n2 esz T ao z x rest l v s':=by
 have bH:=h.bH;have bX:=h.bX;have cj:=h.cj;have dq:=h.dq;have iE:=h.iE;exact⟨cC,m.get h.two af,m.get h.cell af,h.gl.aX (df.mut m λk a=>by unfold bf at a;omega),h.m.trans m.rX,bH,bX,iE,cj,by have:=m.1;omega⟩
def fC.add{s0:av}(u:bI H1 r T ao s0)(h:fC H1 H r b c n2 esz T ao z x rest l v s)(w:l.length<=1000000000)(p:b7):
  ∃i H',cQ P (H.push (.row U 4 [p.cells])) [23,23] v (.aA H.next 0 1 4 (D 1))=D (i,H')/\H.next+1<=H'.next/\i.one=X/\H'.get c=D (.row U esz [x::v::rest])/\(H.push (.row U 4 [p.cells])).get c=D (.row U esz [x::v::rest])/\fC H1 (H'.set c (.row U esz [x::i::rest])) r b c n2 esz T ao z x rest (l++[p]) i s:=by
 have bH:=h.bH;have bX:=h.bX;have cj:=h.cj;have dq:=h.dq;have iE:=h.iE;obtain⟨i,H',a,n,q,d⟩:=h.gl.pm p (by unfold bf;omega) w;have gc:H'.get c=D (.row U esz [x::v::rest]):=by rw[d c af (by unfold bf;omega)];exact h.cell
 have lc:=ad.aR gc;have o:hY r H1.next H1 (H'.set c (.row U esz [x::i::rest])):=h.m.trans ⟨by simp;omega,λk j aB=>by
  have y:k≠r:=λe=>aB (.inl e)
  have A:¬H1.next<=k:=λe=>aB (.inr e)
  rw[ad.get_set_other af,d k j (by unfold bf;omega)]⟩
 refine⟨i,H',a,q,n.one,gc,(aO.push _ _).get h.cell,?_,by rw[ad.get_set_other af,d b af (by unfold bf;omega)];exact h.two,ad.get_set_same lc,n.aX λk x j g=>⟨j,by unfold bf at j;rw[ad.get_set_other af];exact g⟩,o,bH,bX,iE,cj,by simp;omega⟩;exact u.mG o (by unfold bw;rw[ad.get_set_other af,d r af (by unfold bf;omega)];exact h.cC.rd)
def CI{N:Nat}{Q:aa->ad->Prop}{cg:aK}{aj:Int}{s0:av}(V:bI H1 r T ao s0){l':List b7}
  (x:∀H v,fC H1 H r b c n2 3 T ao z (Y cg) [I J aj] l' v s'->W (kY (aC P ay) N (.ptr r 0 0) (.ptr b 0 0) (.ptr c 0 0) H) Q):
  ∀(n m:Nat) (H:ad) (s:av) (l:List b7) (v:aa),n<m->l.length+n<=1000000000->fC H1 H r b c n2 3 T ao z (Y cg) [I J aj] l v s->oa T n l s=D (l',s')->W (lR (aC P ay) N m (.ptr r 0 0) (.ptr b 0 0) (.ptr c 0 0) H) Q
 |_,0,_,_,_,_,aE,_,_,_=>af
 |0,m+1,_,_,_,_,_,_,_,a=>by cases a
 |n+1,m+1,H,s,l,v,aE,a3,h,a=>by
  rw[oa]at a;rw[lR];unfold so;refine aN (jH h.cC.rd) ?_;rintro _ aX ⟨rfl,rfl⟩;refine⟨bj _,?_⟩;by_cases S:s.aF=0
  ·have e:(s.aF==0)=true:=by simpa using S
   simp-implicitDefEqProofs(disch:=try exact al)only[bg,br,e];refine iP (dk h.cC.rd h.cC.bA [125] (by simp)) ?_;rintro _ aY ⟨rfl,L⟩;refine⟨L.1,?_⟩;have o:=h.mut (L.mut _) (h.cC.aM L);rw[e,Bool.true_and]at a;cases ai:a1 T s [125]with
   |true=>
    rw[ai]at a;cases a;simp-implicitDefEqProofs(disch:=try exact al)only[bg,br,e,Bool.not_true];exact x _ _ o
   |false=>
    rw[ai,Bool.not_false,aZ]at a;simp-implicitDefEqProofs(disch:=try exact al)only[bg,br,e,Bool.not_false];refine aN (hv o.cC.rd o.cC.bA) ?_;rintro _ k ⟨rfl,M⟩;refine⟨M.1,?_⟩;have d:=o.mut (M.mut _) (o.cC.aM M);have K:=λH'=>d.gl.mM H'
    have a4:=d.gl.rd;have y:=d.cell;have a5:=d.gl.one;have go:((au T s.at_).kind==1&&l.length==8)=X->W (aH k (aC P ay 24 [.ptr r 0 0,I J 4] k) λa8 i=>kY (aC P ay) N (.ptr r 0 0) (.ptr b 0 0) (.ptr c 0 0) i) Q:=λhm=>by
     rw[hm,aZ]at a;cases a;refine aN (jG d.cC 4) ?_;rintro _ a0 ⟨rfl,m5,aL⟩;exact⟨m5.1,x _ _ (d.mut m5 aL)⟩
    have on:((au T s.at_).kind==1&&l.length==8)=U->W (aH k (aC P ay 26 [.ptr r 0 0] k) λaR i=>
      j (aI P 65 (.ptr c 0 0) 1) λB=>j (an P i 23 B) λE=>bS i (bV P (i).next 23 1 [(0,aR)]) λaS F=>aH F (cQ P F [23,23] E aS) λaU ab=>j (aI P 65 (.ptr c 0 0) 1) λaW=>a7 ab (aV P ab 23 aW aU) λae=>
      bif ((bh (an P k 23 B) E&&(bh (an P i 23 B) E&&(bh (an P F 23 B) E&&X)))&&X)then(aH ae (aC P ay 27 [.ptr r 0 0,Y [59]] ae) λa9 aB=>lR (aC P ay) N m (.ptr r 0 0) (.ptr b 0 0) (.ptr c 0 0) aB)else Z) Q:=λhm=>by
     rw[hm,aT]at a;refine aN (vH d.cC) ?_;rintro _ O ⟨rfl,m6,aO⟩;refine⟨m6.1,?_⟩;have w:=d.mut m6 aO;have aD:=w.cell;have aG:=w.gl.rd;generalize dD T s=q at w a;obtain⟨p,a6⟩:=q;obtain⟨aQ,ak,aw,az,R,ap,aq,ag⟩:=w.add V af p;have aJ:=qV qh O.next (cs:=p.cells) rfl rfl
     have a2:(O.push (.row U 4 [p.cells])).next<=ak.next:=by simp only[ad.bT];exact az
     have ah:=h2 R;simp only[aa.cells]at ah;simp-implicitDefEqProofs(disch:=try exact al)only[bg,br,dR,an,cy,aV,cy,Nat.reduceAdd,Nat.reduceLeDiff,reduceIte,aa.cells,cE,dz,du,ah,aD,aJ,aw,eK,ap,aq,R,aG,y];refine aN (gi ag.cC [59] (by simp)) ?_;rintro _ am ⟨rfl,m8,aP⟩;refine⟨m8.1,?_⟩;exact CI V x n m am _ _ aQ af (by simp;omega) (ag.mut m8 aP) a
    cases u:(au T s.at_).kind==1 with
    |true=>
     rw[u]at go on;cases A:l.length==8 with
     |true=>
      have G:((l.length:Int)==8)=true:=by
       have:l.length=8:=by simpa using A
       simp;omega
      rw[A]at go;simp-implicitDefEqProofs(disch:=try exact al)only[reduceAdd,reduceLeDiff,reduceIte,ax,Tok.v,y,K,u,G];exact go rfl
     |false=>
      have G:((l.length:Int)==8)=false:=by
       have:l.length≠8:=by simpa using A
       simp;omega
      rw[A]at on;simp-implicitDefEqProofs(disch:=try exact al)only[reduceAdd,reduceLeDiff,reduceIte,ax,Tok.v,y,K,u,G];exact on rfl
    |false=>
     rw[u]at on;simp-implicitDefEqProofs(disch:=try exact al)only[reduceAdd,reduceLeDiff,reduceIte,ax,Tok.v,y,K,u];exact on rfl
  ·have e:(s.aF==0)=false:=by simpa using S
   rw[e]at a;cases a;simp-implicitDefEqProofs(disch:=try exact al)only[bg,br,e];exact x _ _ h
end
section
variable {H H' H1:ad}{r:Nat}{T:List Tok}{ao:aa}{s s':av}
def hY.mt(m:hY r H.next H H'):b5 r H H':=⟨m.1,λl a aB=>m.2 l a λe=>by
 rcases e with e|e
 ·exact aB e
 ·omega⟩
def Jk{n:Nat}(az:n<=1000000000)(h:bI H r T ao s){x:e1}(E:mY T n s=D (x,s')):W (aC P ay 25 [.ptr r 0 0] H) λv H'=>(∃cs,v= .agg cs/\iC.V H' (bf H.next) x cs)/\b5 r H H'/\bI H' r T ao s':=by
 refine cz (λ_=>Jx (n+1)) ?_;have ax:=h.rd.lt;unfold mY at E;obtain⟨⟨l',N⟩,j,F⟩:=cR.1 E;simp only[aU,bY]at F;obtain⟨rfl,rfl⟩:=F;have d:=aO.push H (.row U 3 [[Y [],.ar,I J 0]]);have ab:=ad.bC H (.row U 3 [[Y [],.ar,I J 0]]);simp-implicitDefEqProofs(disch:=try exact al)only[sn,bg,br,List.length_cons,List.length_nil,Nat.zero_add,Nat.reduceAdd];refine aN (hv (h.rd.aM d) (h.aM d).bA) ?_;rintro _ H1 ⟨rfl,c⟩;refine⟨c.1,?_⟩;have aD:=c.1;simp only[ad.bT]at aD;have O:=(h.aM d).aM c;have ae:=c.get ab;generalize au T s.at_=q;obtain⟨k,x,z,p⟩:=q;have o:=aO.push H1 (.row U 3 [[Y [],.ar,I J p]])
 have am:=ad.bC H1 (.row U 3 [[Y [],.ar,I J p]]);simp-implicitDefEqProofs(disch:=try exact al)only[bg,br,dR,an,cy,aV,cy,Nat.reduceAdd,Nat.reduceLeDiff,reduceIte,aa.cells,cE,dz,du,ad.hr,Tok.v];refine aN (lL (O.aM o)) ?_;rintro _ u ⟨rfl,m3,i⟩;refine⟨m3.1,?_⟩;have aE:=m3.1;simp only[ad.bT]at aE;have ag:=m3.get (o.get ae) af;have B:=m3.get am af;have dI:=ad.aR B;generalize bu T s=ai at i j ⊢;obtain⟨cg,e4⟩:=ai;simp only at i j ⊢;have aB:=((((d.mut (· =r)).trans (c.mut _)).trans (o.mut _)).trans m3);have K:=aB.cv (l:=H1.next) (.inr af) (.row U 3 [[Y cg,.ar,I J p]]);have Q:=h.mut K (show bw _ r ao e4 by unfold bw;rw[ad.get_set_other af];exact i.rd)
 have ah:(u.set H1.next (.row U 3 [[Y cg,.ar,I J p]])).get H.next=D (.row U 3 [[Y [],.ar,I J 0]]):=by rw[ad.get_set_other af];exact ag
 have ap:(u.set H1.next (.row U 3 [[Y cg,.ar,I J p]])).get H1.next=D (.row U 3 [[Y cg,.ar,I J p]]):=ad.get_set_same dI
 simp-implicitDefEqProofs(disch:=try exact al)only[bg,br,dR,an,cy,aV,cy,Nat.reduceAdd,Nat.reduceLeDiff,reduceIte,aa.cells,cE,dz,du,B];refine aN (gi Q [123] (by simp)) ?_;rintro _ e ⟨rfl,m5,R⟩;refine⟨m5.1,?_⟩;have aF:=m5.1;simp only[ad.dj]at aF;have aj:=m5.get ah af;have aq:=m5.get ap af;have gn:fC H e r H.next H1.next e.next 3 T ao [Y [],.ar,I J 0] (Y cg) [I J p] [] .ar (bl T [123] e4):=⟨R,aj,aq,.nil,b5.rX (K.trans m5),ax,bj _,af,af,bj _⟩
 refine CI h (s':=N) (l':=l') (λaG v y=> ?_) n (n+1) e _ [] .ar (Nat.lt_succ_self _) (by simpa using az) gn j;unfold kY;refine aN (gi y.cC [125] (by simp)) ?_;rintro _ w ⟨rfl,m7,ka⟩;refine⟨m7.1,?_⟩;have a:=y.mut m7 ka;have A:=a.two;have av:=a.cell;have M:=a.gl.one;have aH:=ad.aR A;have aw:=h2 M;simp only[aa.cells]at aw;have L:hY r H.next H (w.set H.next (.row U 3 [[Y cg,v,I J p]])):=a.m.cv (.inr (bj _)) _
 have S:=h.mG L (s':=bl T [125] N) (by unfold bw;rw[ad.get_set_other af];exact a.cC.rd);have ak:c0 fF (bf H.next) (w.set H.next (.row U 3 [[Y cg,v,I J p]])) l' v:=a.gl.aX λk x G g=>⟨by unfold bf at G ⊢;omega,by have:=a.dq;unfold bf at G;rw[ad.get_set_other af];exact g⟩
 simp-implicitDefEqProofs(disch:=try exact al)only[bg,br,dR,an,cy,aV,cy,Nat.reduceAdd,Nat.reduceLeDiff,reduceIte,aa.cells,cE,dz,du,A,av,M];exact bb.2 ⟨⟨_,rfl,v,rfl,ak.aA⟩,L.mt,S⟩
end
section
set_option maxRecDepth 100000
noncomputable section
def nw(G:az)(N:Nat)(ag c:aa)(H:ad):O:=aH H (G 79 [ag,Y [125]] H) λd a=>D (c,a)
def Ll(G:az)(N:Nat):∀ae H,bp P G N (ak (ak (ak (ak (bs Tryd.f56))))) (bk Tryd.f56) [] (bk Tryd.f56) ae H=nw G N (ae 0) (ae 3) H:=by
 refine bL (aJ _) λae H=> ?_
 delta nw;kernel_rfl
def sG(G:az)(N:Nat)(k:aa->aa->ad->O)(ag i:aa)(H:ad):O:=aH H (G 21 [ag] H) λa l=>aQ a X l (ca ag) λw c=>aQ a X c (λq=>eL c (G 23 [w,Y [125]] c) q) λo m=>aQ a X m (bz (ff .not o)) λp d=>j (cD a (D p) (D (C U))) λs=>aW (D s) (aH d (G 78 [ag] d) λu e=>bS e (bV P (e).next 71 1 [(0,u)]) λbx h=>aH h (cQ P h [71,71] i bx) λv n=>k ag v n) (nw G N ag i d)
def nx(G:az)(N:Nat):Nat->aa->aa->ad->O
 |0,_,_,_=>Z
 |n+1,ag,a,H=>sG G N (nx G N n) ag a H
def Lk(G:az)(N:Nat)(c:aa->aa->ad->O):∀ae H,bp P G N (a6 (a6 (a6 (ak (ak (ak (bs Tryd.f56))))))) (λae H=>c (ae 0) (ae 3) H) [(0,(λae H=>nw G N (ae 0) (ae 3) H))] (bk Tryd.f56) ae H=sG G N c (ae 0) (ae 3) H:=by
 refine bL (aJ _) λae H=> ?_
 delta sG;generalize nw G N=a;revert a;refine id ?_;intro a;kernel_rfl
def sF(G:az)(N:Nat)(ag:aa)(H:ad):O:=aH H (G 77 [ag,Y [123]] H) λc a=>nx G N N ag aa.ar a
def JS(N:Nat){ag:aa}{H:ad}{r:aa×ad}(h:sF (aC P ay) N ag H=D r):aC P ay 56 [ag] H=D r:=cO N (S:=λG=>sF G N ag H) Tryd.func56 (λG=>dN ((aP ah ((aP ah ((aP ah ((aP ah (Ll G N) ((dc ah ((ei (k:=λm ae H=>nx G N m (ae 0) (ae 3) H) ah (λae H=>ah) (λm=>Lk G N (nx G N m)))))))) (aJ _))) (aJ _))) (aJ _))) (by delta sF;generalize nx G N N=a;revert a;refine id ?_;intro a;kernel_rfl)) h
def gg(G:az)(c e:aa)(H:ad):O:=j (an P H 112 e) λd=>a7 H (aV P H 112 c d) λa=>j (an P a 112 c) λr=>D (r,a)
def LC(G:az)(N:Nat):∀ae H,bp P G N (ak (ak (ak (ak (bs Tryd.f78))))) (bk Tryd.f78) [] (bk Tryd.f78) ae H=gg G (ae 2) (ae 4) H:=by
 refine bL (aJ _) λae H=> ?_
 delta gg;kernel_rfl
def nD(G:az)(ag c d:aa)(H:ad):O:=aH H (G 27 [ag,Y [59]] H) λe a=>gg G c d a
def LF(G:az)(N:Nat):∀ae H,bp P G N (ak (ak (ak (ak (ak (ak (a6 (ak (a6 (a6 (ak (ak (ak (bs Tryd.f78)))))))))))))) (λae H=>gg G (ae 2) (ae 4) H) [(0,(λae H=>gg G (ae 2) (ae 4) H))] (bk Tryd.f78) ae H=nD G (ae 0) (ae 2) (ae 4) H:=by
 refine bL (aJ _) λae H=> ?_
 delta nD;generalize gg G=a;revert a;refine id ?_;intro a;kernel_rfl
def nE(G:az)(ag c d:aa)(H:ad):O:=aH H (G 27 [ag,Y [59]] H) λe a=>gg G c d a
def LG(G:az)(N:Nat):∀ae H,bp P G N (ak (ak (ak (a6 (ak (ak (ak (ak (ak (ak (ak (a6 (a6 (ak (ak (ak (bs Tryd.f78))))))))))))))))) (λae H=>gg G (ae 2) (ae 4) H) [(0,(λae H=>gg G (ae 2) (ae 4) H))] (bk Tryd.f78) ae H=nE G (ae 0) (ae 2) (ae 4) H:=by
 refine bL (aJ _) λae H=> ?_
 delta nE;generalize gg G=a;revert a;refine id ?_;intro a;kernel_rfl
def k_(G:az)(ag n:aa)(aw a ah:aa)(H:ad):O:=aW (D ah) (j (bW ag) λai=>j (aI P 59 ai 1) λaj=>j (an P H 3 aj) λak=>j (aq P .add 3 X ak (I J 1)) λal=>j (bW ag) λam=>j (aI P 59 am 1) λao=>a7 H (aV P H 3 ao al) λo=>j (aI P 112 a 0) λap=>a7 o (aV P o 3 ap (I J 1)) λm=>aH m (G 55 [ag] m) λau i=>j (aI P 112 a 1) λav=>a7 i (aV P i 9 av au) λc=>aH c (G 27 [ag,Y [58]] c) λbp e=>aH e (G 53 [ag] e) λax d=>j (aI P 112 a 2) λay=>a7 d (aV P d 40 ay ax) λh=>j (aI P 61 aw 1) λaB=>j (an P h 9 aB) λaC=>j (aq P .eql 9 X aC (Y [108,101,116])) λaD=>aW (D aD) (j (aI P 112 a 0) λaE=>a7 h (aV P h 3 aE (I J 2)) λk=>aH k (G 27 [ag,Y [61]] k) λbq l=>aH l (G 40 [ag,I J 0] l) λaF p=>bS p (bV P (p).next 41 1 [(0,aF)]) λaG q=>j (aI P 112 a 3) λaJ=>a7 q (aV P q 41 aJ aG) λs=>nD G ag n a s) (nD G ag n a h)) (aH H (G 23 [ag,Y [105,102]] H) λaK o=>aW (D aK) (j (bW ag) λaL=>j (aI P 59 aL 1) λaM=>j (an P o 3 aM) λaN=>j (aq P .add 3 X aN (I J 1)) λaO=>j (bW ag) λaP=>j (aI P 59 aP 1) λaQ=>a7 o (aV P o 3 aQ aO) λm=>j (aI P 112 a 0) λaR=>a7 m (aV P m 3 aR (I J 5)) λi=>aH i (G 40 [ag,I J 0] i) λaS c=>bS c (bV P (c).next 41 1 [(0,aS)]) λaT e=>j (aI P 112 a 3) λaU=>a7 e (aV P e 41 aU aT) λd=>aH d (G 56 [ag] d) λaX h=>j (aI P 112 a 4) λaY=>a7 h (aV P h 71 aY aX) λk=>aH k (G 23 [ag,Y [101,108,115,101]] k) λaZ l=>aW (D aZ) (j (bW ag) λa0=>j (aI P 59 a0 1) λa1=>j (an P l 3 a1) λa2=>j (aq P .add 3 X a2 (I J 1)) λa3=>j (bW ag) λa4=>j (aI P 59 a4 1) λa5=>a7 l (aV P l 3 a5 a3) λp=>aH p (G 56 [ag] p) λa6 q=>j (aI P 112 a 5) λa8=>a7 q (aV P q 71 a8 a6) λs=>gg G n a s) (gg G n a l)) (aH o (G 23 [ag,Y [119,104,105,108,101]] o) λa9 m=>aW (D a9) (j (bW ag) λa_=>j (aI P 59 a_ 1) λba=>j (an P m 3 ba) λbb=>j (aq P .add 3 X bb (I J 1)) λbc=>j (bW ag) λbd=>j (aI P 59 bd 1) λbe=>a7 m (aV P m 3 be bc) λi=>j (aI P 112 a 0) λbf=>a7 i (aV P i 3 bf (I J 6)) λc=>aH c (G 40 [ag,I J 0] c) λbg e=>bS e (bV P (e).next 41 1 [(0,bg)]) λbh d=>j (aI P 112 a 3) λbi=>a7 d (aV P d 41 bi bh) λh=>aH h (G 56 [ag] h) λbj k=>j (aI P 112 a 4) λbk=>a7 k (aV P k 71 bk bj) λl=>gg G n a l) (aH m (G 23 [ag,Y [114,101,116,117,114,110]] m) λbl i=>aW (D bl) (j (bW ag) λbm=>j (aI P 59 bm 1) λbn=>j (an P i 3 bn) λu=>j (aq P .add 3 X u (I J 1)) λv=>j (bW ag) λw=>j (aI P 59 w 1) λx=>a7 i (aV P i 3 x v) λc=>j (aI P 112 a 0) λy=>a7 c (aV P c 3 y (I J 7)) λe=>aH e (G 23 [ag,Y [59]] e) λz d=>j (ff .not z) λA=>aW (D A) (aH d (G 40 [ag,I J 0] d) λB h=>bS h (bV P (h).next 41 1 [(0,B)]) λF k=>j (aI P 112 a 3) λK=>a7 k (aV P k 41 K F) λl=>nE G ag n a l) (nE G ag n a d)) (aH i (G 23 [ag,Y [112,114,105,110,116]] i) λL c=>aW (D L) (j (bW ag) λM=>j (aI P 59 M 1) λN=>j (an P c 3 N) λR=>j (aq P .add 3 X R (I J 1)) λS=>j (bW ag) λT=>j (aI P 59 T 1) λV=>a7 c (aV P c 3 V S) λe=>j (aI P 112 a 0) λW=>a7 e (aV P e 3 W (I J 8)) λd=>aH d (G 40 [ag,I J 0] d) λab h=>bS h (bV P (h).next 41 1 [(0,ab)]) λae k=>j (aI P 112 a 3) λaf=>a7 k (aV P k 41 af ae) λl=>aH l (G 27 [ag,Y [59]] l) λbo p=>gg G n a p) (j (an P c 112 a) λE=>aH c (G 89 [ag,E] c) λQ e=>a7 e (aV P e 112 n Q) λd=>j (an P d 112 n) λr=>D (r,d))))))
def LD(G:az)(N:Nat):∀ae H,bp P G N (ak (a6 (a6 (ak (ak (ak (bs Tryd.f78))))))) (λae H=>gg G (ae 2) (ae 4) H) [(0,(λae H=>gg G (ae 2) (ae 4) H))] (bk Tryd.f78) ae H=k_ G (ae 0) (ae 2) (ae 3) (ae 4) (ae 13) H:=by
 refine bL ((dt ah ((aP ah ((aP ah ((aP ah ((aP ah ((aP ah ((aP ah (LF G N) (aJ _))) (aJ _))) (aJ _))) (aJ _))) (aJ _))) (aJ _))) ((aP ah ((dt ah (aJ _) ((aP ah ((dt ah (aJ _) ((aP ah ((dt ah ((aP ah ((aP ah ((aP ah (LG G N) (aJ _))) (aJ _))) (aJ _))) (aJ _))) (aJ _))))) (aJ _))))) (aJ _))))) λae H=> ?_
 delta k_;generalize nE G=a;generalize gg G=c;generalize nD G=d;revert a c d;refine id ?_;intro a c d;kernel_rfl
def qN(G:az)(ag:aa)(H:ad):O:=cf H [I J 0,Y [],Y [],I J 0,aa.ar,aa.ar,aa.ar,I J 0,I J 0] λn e=>aH e (G 22 [ag] e) λbo o=>cf o [I J 0,Y [],I J 0,I J 0] λa h=>a7 h (aV P h 61 a bo) λi=>j (aI P 61 a 3) λs=>j (an P i 3 s) λu=>j (ch P 112 [(6,u)]) λv=>cf i [I J 0,Y [],Y [],I J 0,aa.ar,aa.ar,aa.ar,I J 0,I J 0] λd k=>a7 k (aV P k 112 d v) λl=>aH l (G 23 [ag,Y [118,97,114]] l) λm c=>aW (D m) (k_ G ag n a d m c) (aH c (G 23 [ag,Y [108,101,116]] c) λq p=>k_ G ag n a d q p)
def J6(N:Nat){ag:aa}{H:ad}{r:aa×ad}(h:qN (aC P ay) ag H=D r):aC P ay 78 [ag] H=D r:=cO N (S:=λG=>qN G ag H) Tryd.func78 (λG=>dN ((aP ah ((aP ah ((aP ah ((aP ah (LC G N) ((dc ah ((aP ah (LD G N) (aJ _))))))) (aJ _))) (aJ _))) (aJ _))) (by delta qN;generalize k_ G=a;revert a;refine id ?_;intro a;kernel_rfl)) h
def l8(G:az)(ag c:aa)(k l:aa)(H:ad):O:=aH H (G 27 [ag,Y [61]] H) λT m=>aH m (G 40 [ag,I J 0] m) λs q=>cf q [I J 0,I J 0,Y [],Y [],I J 0,aa.ar,I J 0,I J 0,I J 0,I J 0,I J 0] λbo o=>a7 o (aV P o 45 bo s) λp=>aH p (G 27 [ag,Y [59]] p) λV i=>j (aI P 45 l 0) λu=>j (an P i 3 u) λv=>j (aq P .eql 3 X v (I J 4)) λw=>aW (D w) (j (aI P 112 c 0) λx=>a7 i (aV P i 3 x (I J 3)) λa=>j (aI P 45 l 2) λy=>j (an P a 9 y) λz=>j (aI P 112 c 1) λA=>a7 a (aV P a 9 A z) λd=>j (an P d 45 bo) λB=>bS d (bV P (d).next 41 1 [(0,B)]) λE e=>j (aI P 112 c 3) λF=>a7 e (aV P e 41 F E) λh=>j (an P h 112 c) λK=>a7 h (aV P h 112 k K) λn=>j (an P n 112 k) λr=>D (r,n)) (j (aI P 112 c 0) λL=>a7 i (aV P i 3 L (I J 4)) λa=>j (an P a 45 l) λM=>j (an P a 45 bo) λN=>bS a (bV P (a).next 41 2 [(0,M),(1,N)]) λQ d=>j (aI P 112 c 3) λR=>a7 d (aV P d 41 R Q) λe=>j (an P e 112 c) λS=>a7 e (aV P e 112 k S) λh=>j (an P h 112 k) λr=>D (r,h))
def LO(G:az)(N:Nat):∀ae H,bp P G N (ak (ak (ak (ak (bs Tryd.f89))))) (bk Tryd.f89) [] (bk Tryd.f89) ae H=l8 G (ae 0) (ae 3) (ae 4) (ae 5) H:=by
 refine bL (aJ _) λae H=> ?_
 delta l8;kernel_rfl
def o5(G:az)(ag k:aa)(l a:aa)(H:ad):O:=j (aI P 45 a 0) λq=>j (an P H 3 q) λs=>j (aq P .neq 3 X s (I J 4)) λc=>aQ c X H (bz (aI P 45 a 0)) λu h=>aQ c X h (qr (an P h 3 u)) λv m=>aQ c X m (bz (aq P .neq 3 X v (I J 5))) λw n=>j (cD c (D w) (D (C U))) λd=>aQ d X n (bz (aI P 45 a 0)) λx i=>aQ d X i (qr (an P i 3 x)) λy o=>aQ d X o (bz (aq P .neq 3 X y (I J 6))) λz e=>j (cD d (D z) (D (C U))) λA=>aW (D A) (aH e (G 24 [ag,I J 2] e) λB p=>l8 G ag k l a p) (l8 G ag k l a e)
def LN(G:az)(N:Nat):∀ae H,bp P G N (ak (ak (ak (bs Tryd.f89)))) (bk Tryd.f89) [] (bk Tryd.f89) ae H=o5 G (ae 0) (ae 3) (ae 4) (ae 5) H:=by
 refine bL ((aP ah (LO G N) (aJ _))) λae H=> ?_
 delta o5;generalize l8 G=a;revert a;refine id ?_;intro a;kernel_rfl
def l9(G:az)(ag h d:aa)(H:ad):O:=aH H (G 27 [ag,Y [59]] H) λi a=>j (an P a 112 h) λe=>a7 a (aV P a 112 d e) λc=>j (an P c 112 d) λr=>D (r,c)
def LP(G:az)(N:Nat):∀ae H,bp P G N (ak (ak (ak (a6 (ak (a6 (ak (ak (bs Tryd.f89))))))))) (λae H=>o5 G (ae 0) (ae 3) (ae 4) (ae 5) H) [] (bk Tryd.f89) ae H=l9 G (ae 0) (ae 3) (ae 4) H:=by
 refine bL (aJ _) λae H=> ?_
 delta l9;kernel_rfl
def jd(G:az)(ag aw:aa)(H:ad):O:=bS H (dS (H).next aw) λa s=>cf s [I J 0,Y [],Y [],I J 0,aa.ar,aa.ar,aa.ar,I J 0,I J 0] λk m=>aH m (G 40 [ag,I J 0] m) λQ x=>cf x [I J 0,I J 0,Y [],Y [],I J 0,aa.ar,I J 0,I J 0,I J 0,I J 0,I J 0] λd n=>a7 n (aV P n 45 d Q) λo=>aH o (G 23 [ag,Y [61]] o) λy h=>j (ff .not y) λz=>aW (D z) (j (aI P 112 a 0) λA=>a7 h (aV P h 3 A (I J 9)) λi=>j (an P i 45 d) λB=>bS i (bV P (i).next 41 1 [(0,B)]) λE p=>j (aI P 112 a 3) λF=>a7 p (aV P p 41 F E) λq=>aH q (G 23 [ag,Y [59]] q) λc u=>aQ c X u (bz (aI P 45 d 0)) λK l=>aQ c X l (qr (an P l 3 K)) λL v=>aQ c X v (bz (aq P .neq 3 X L (I J 7))) λM e=>j (cD c (D M) (D (C U))) λN=>aW (D N) (aH e (G 24 [ag,I J 2] e) λR w=>l9 G ag a k w) (l9 G ag a k e)) (o5 G ag a k d h)
def Ka(N:Nat){ag aw:aa}{H:ad}{r:aa×ad}(h:jd (aC P ay) ag aw H=D r):aC P ay 89 [ag,aw] H=D r:=cO N (S:=λG=>jd G ag aw H) Tryd.func89 (λG=>dN ((aP ah ((aP ah ((aP ah (LN G N) ((aP ah ((dt ah ((aP ah ((aP ah ((aP ah (LP G N) (aJ _))) (aJ _))) (aJ _))) (aJ _))) (aJ _))))) (aJ _))) (aJ _))) (by delta jd;generalize o5 G=a;generalize l9 G=c;revert a c;refine id ?_;intro a c;kernel_rfl)) h
end
end
def oI{H:ad}{r:Nat}{T:List Tok}{ao:aa}{s:av}(aE:T.length<=20000000)(c:bI H r T ao s):W (aC P ay 40 [.ptr r 0 0,I J 0] H) (dB H r T ao (bB T s).1 (bB T s).2):=by
 obtain⟨p,q,-,a,-,-⟩:=CU (T:=T) af T.length s (A0 _ _) 0 800000000 800000000 af af af;have:bB T s=q:=by simp only[bB,a]
 rw[this];exact(tD 800000000 af 800000000 (bj _)).expr c 0 af q.1 q.2 a
def Ji{H0 H:ad}{r:Nat}{T:List Tok}{ao:aa}{s0 s:av}(c:bI H0 r T ao s0)(j:b5 r H0 H)(l:bw H r ao s){a:b2}{es:List aL}{b6:aa}(i:b8 H (bf (H0.next+2)) es b6)(g3:H.get H0.next=D (.row U 9 [a.cells b6 .ar .ar]))(g4:H.get (H0.next+1)=D (.row U 9 [[I J 0,Y [],Y [],I J 0,.ar,.ar,.ar,I J 0,I J 0]])):
  W (l9 (aC P ay) (.ptr r 0 0) (.ptr H0.next 0 0) (.ptr (H0.next+1) 0 0) H) (fb H0 r T ao (.mk a es [] []) (bl T [59] s)):=by
 have n:=c.rd.lt;have mN:=ad.aR g4;have k:=i.eb;rw[l9];refine aN (gi (c.mut j l) [59] (by simp)) ?_;rintro _ H1 ⟨rfl,m1,m⟩;refine⟨m1.1,?_⟩;have d:=m1.get g3 af;have e:=m1.get g4 af;have eY:=ad.aR e;simp only[b2.cells]at d;simp-implicitDefEqProofs(disch:=try exact al)only[jd,reduceAdd,reduceLeDiff,reduceIte,ax,eV,d,e,k];exact bb.2 (fb.fin (a:=a) c (j.trans m1) m.rd (i.aX (c9.mut m1 (by unfold bf;omega) λ_ h=>h)) (c1.nil _ _) (c1.nil _ _) af (lo:=H0.next+2) af _)
def fb.two{H c bJ:ad}{r:Nat}{T:List Tok}{ao:aa}{s s':av}{a:b2}{es:List aL}{b6:aa}(i:bI H r T ao s)(j:b5 r H c)(d:bw c r ao s')(u:c.next<=bJ.next)(e:∀l,l<c.next->l≠H.next->l≠H.next+1->bJ.get l=c.get l)
  (o:c9 c (bf (H.next+2)) bJ (bf H.next)->b8 bJ (bf H.next) es b6):fb H r T ao (.mk a es [] []) s' (.agg (a.cells b6 .ar .ar)) bJ:=by
 have q:=i.rd.lt;have p:=j.1;have m:b5 r H bJ:=⟨af,λl k n=>by rw[e l af af af];exact j.2 l k n⟩;refine⟨m,i.mut m ?_,lj.2 ⟨b6,.ar,.ar,rfl,o λl ro els h g=>⟨by unfold bf at*;omega,?_⟩,c1.nil _ _,c1.nil _ _⟩⟩
 ·have:=d.lt;unfold bw at d ⊢;rw[e r af af af];exact d
 ·have:=ad.aR g;unfold bf at h;rw[e l af af af];exact g
def Jl{H0 H:ad}{r:Nat}{T:List Tok}{ao:aa}{s0 s:av}(aE:T.length<=20000000)(d:bI H0 r T ao s0)(B:b5 r H0 H)(N:bw H r ao s){pos:Int}{a:bM}{ks:List aL}{kv:aa}{b:Nat}(he:cr H (λl=>H0.next+2<=l/\l<b) (.mk a ks) (.agg (a.cells kv)))(ae:H0.next+2<=b)
  (g3:H.get H0.next=D (.row U 9 [b2.cells {kind:=0,pos:=pos} .ar .ar .ar])) (g4:H.get (H0.next+1)=D (.row U 9 [[I J 0,Y [],Y [],I J 0,.ar,.ar,.ar,I J 0,I J 0]])) (g5:H.get b=D (.row U 11 [a.cells kv])):
  W (l8 (aC P ay) (.ptr r 0 0) (.ptr H0.next 0 0) (.ptr (H0.next+1) 0 0) (.ptr b 0 0) H) (fb H0 r T ao (bE.at pos (bif a.kind==4 then .mk {kind:=3,name:=a.name} [(bB T (bl T [61] s)).1] [] []else .mk {kind:=4} [.mk a ks,(bB T (bl T [61] s)).1] [] [])) (bl T [59] (bB T (bl T [61] s)).2)):=by
 have ag:=d.rd.lt;have ah:=ad.aR g5;rw[l8];refine aN (gi (d.mut B N) [61] (by simp)) ?_;rintro _ H1 ⟨rfl,m1,m⟩;refine⟨m1.1,?_⟩;have ak:=m1.1;generalize bl T [61] s=s1 at m ⊢;simp-implicitDefEqProofs(disch:=try exact al)only[jd,reduceAdd,reduceLeDiff,reduceIte,ax,eV];refine aN (oI aE m) ?_;rintro v q ⟨m2,n,j⟩;refine⟨m2.1,?_⟩;have n2:=m2.1;obtain⟨cs,rfl,i,bH⟩:=j.cells;generalize bB T s1=ab at n j ⊢;simp-implicitDefEqProofs(disch:=try exact al)only[jd,reduceAdd,reduceLeDiff,reduceIte,ax,eV,i,bH,List.append_nil];have c:=aO.push q (.row U 11 [cs]);refine aN (gi (n.aM c) [59] (by simp)) ?_;rintro _ F ⟨rfl,m4,y⟩
 refine⟨m4.1,?_⟩;have Q:=m4.1;simp only[ad.bT]at Q;have gn:=n.rd.lt;have e:=m4.get (c.get (m2.get (m1.get g3 af) af)) af;have o:=m4.get (c.get (m2.get (m1.get g4 af) af)) af;have p:=m4.get (c.get (m2.get (m1.get g5 af) af)) af;have z:=m4.get (ad.bC q (.row U 11 [cs])) af;have ai:=ad.aR e;have aj:=ad.aR o;have m24:=(c.mut (· =r)).trans m4;have E:=(((B.trans m1).trans m2).trans m24);have t1:List.take 11 cs=cs:=List.take_of_length_le af;have x:=j.mut (ok':=bf (H0.next+2)) m24 (by unfold bf;have:=m.rd.lt;omega) λl h=>by unfold bf at*;omega
 have G:cr F (bf (H0.next+2)) (.mk a ks) (.agg (a.cells kv)):=he.mut ((m1.trans m2).trans m24) af λl h=>by unfold bf;omega
 obtain⟨O,M,L⟩:=gQ.1 he;have w:=L.eb;have K:O=kv:=by
  have:=congrArg (λv=>match v with|aa.agg cs=>cs[5]? |_=>Z) M;simpa [bM.cells]using this.symm
 rw[K]at w;have R:(a.cells kv).all aa.one=true:=by simp only[bM.cells,List.all_cons,List.all_nil,gJ,hq,w,Bool.and_self]
 simp only[b2.cells]at e;cases u:a.kind==4 with
 |true=>
  have aB:∀l,bV P l 41 1 [(0,.agg cs)]=D (.aA l 0 1 11 (D 1),.row U 11 [cs]):=λl=>jf l cs i bH
  simp only[bM.cells]at p;simp-implicitDefEqProofs(disch:=try exact al)only[jd,reduceAdd,reduceLeDiff,reduceIte,ax,eV,e,o,p,z,u,t1,aB,ad.hr];refine bb.2 (fb.two (a:={kind:=3,name:=a.name,pos:=pos}) d E y.rd ?_ ?_ λk=>b8.mS (ro:=false) ?_ (by unfold bf;omega) (cr.aX k _ _ x))
  ·simp only[ad.bT,ad.dj];omega
  ·intro l aY S V;simp-implicitDefEqProofs(disch:=try exact al)only[du]
  ·simp-implicitDefEqProofs(disch:=try exact al)only[du]
 |false=>
  have aB:∀l,bV P l 41 2 [(0,.agg (a.cells kv)),(1,.agg cs)]=D (.aA l 0 2 11 (D 2),.row U 11 [a.cells kv,cs]):=λl=>vW l (a.cells kv) cs rfl R i bH
  have A:=p;simp only[bM.cells]at A aB;simp-implicitDefEqProofs(disch:=try exact al)only[jd,reduceAdd,reduceLeDiff,reduceIte,ax,eV,e,o,A,z,u,t1,aB,ad.hr];refine bb.2 (fb.two (a:={kind:=4,pos:=pos}) d E y.rd ?_ ?_ λk=>b8.wu (ro:=false) ?_ (by unfold bf;omega) (cr.aX k _ _ G) (cr.aX k _ _ x))
  ·simp only[ad.bT,ad.dj];omega
  ·intro l aY S V;simp-implicitDefEqProofs(disch:=try exact al)only[du]
  ·simp-implicitDefEqProofs(disch:=try exact al)only[du,bM.cells]
def Jj{H:ad}{r:Nat}{T:List Tok}{ao:aa}{s:av}(aE:T.length<=20000000)(x:bI H r T ao s)(pos:Int):W (aC P ay 89 [.ptr r 0 0,.agg (b2.cells {kind:=0,pos:=pos} .ar .ar .ar)] H) (fb H r T ao ((j_ T s).1.at pos) (j_ T s).2):=by
 refine cz (λ_=>Ka 0) ?_;have au:=x.rd.lt;have ai:∀l,dS l (.agg (b2.cells {kind:=0,pos:=pos} .ar .ar .ar))=D (.ptr l 0 0,.row U 9 [b2.cells {kind:=0,pos:=pos} .ar .ar .ar]):=λl=>hh l _ rfl
 have ah:=(aO.push H (.row U 9 [b2.cells {kind:=0,pos:=pos} .ar .ar .ar])).bt (.row U 9 [[I J 0,Y [],Y [],I J 0,.ar,.ar,.ar,I J 0,I J 0]]);simp-implicitDefEqProofs(disch:=try exact al)only[jd,reduceAdd,reduceLeDiff,reduceIte,ax,eV,ai];refine aN (oI aE (x.aM ah)) ?_;rintro v k ⟨m2,E,he⟩;refine⟨m2.1,?_⟩;have n2:=m2.1;simp only[ad.bT]at n2;unfold j_;obtain⟨cs,rfl,ae,bH⟩:=he.cells;have t1:List.take 11 cs=cs:=List.take_of_length_le af;have g3:k.get H.next=D (.row U 9 [b2.cells {kind:=0,pos:=pos} .ar .ar .ar]):=m2.get (by simp-implicitDefEqProofs(disch:=try exact al)only[du]) af
 have g4:=m2.get (ad.bC (H.push (.row U 9 [b2.cells {kind:=0,pos:=pos} .ar .ar .ar])) (.row U 9 [[I J 0,Y [],Y [],I J 0,.ar,.ar,.ar,I J 0,I J 0]])) (by simp only[ad.bT];omega);simp only[ad.bT]at g4;generalize bB T s=d at E he ⊢;simp-implicitDefEqProofs(disch:=try exact al)only[jd,reduceAdd,reduceLeDiff,reduceIte,ax,eV,ae,bH,List.append_nil];have ab:=aO.push k (.row U 11 [cs]);refine aN (dk (E.rd.aM ab) (E.bA.aM ab) [61] (by simp)) ?_;rintro _ c ⟨rfl,L⟩;refine⟨L.1,?_⟩;have ak:=L.1;simp only[ad.bT]at ak;have y:=ab.trans L;have G:=y.get g3;have K:=y.get g4
 have q:=L.get (ad.bC k (.row U 11 [cs]));have aw:=ad.aR G;have az:=ad.aR q;have n:cr c (λl=>H.next+2<=l/\l<k.next) d.1 (.agg cs):=cr.aX (c9.aM y λl h=>by simpa only[bf,ad.bT]using h) _ _ he.below;have V:=((ah.mut (· =r)).trans m2).trans (y.mut _);have Q:=E.aM y;cases aq:a1 T d.2 [61]with
 |true=>
  simp-implicitDefEqProofs(disch:=try exact al)only[jd,reduceAdd,reduceLeDiff,reduceIte,ax,eV,Bool.not_true];unfold vT;have fin:∀(i:ad) (a:bM) (ks:List aL) (kv:aa),cr i (λl=>H.next+2<=l/\l<k.next) (.mk a ks) (.agg (a.cells kv))->b5 r H i->bw i r ao (bif h4 (.mk a ks)then cL T 2 d.2 else d.2)->i.get H.next=D (.row U 9 [b2.cells {kind:=0,pos:=pos} .ar .ar .ar])->i.get (H.next+1)=D (.row U 9 [[I J 0,Y [],Y [],I J 0,.ar,.ar,.ar,I J 0,I J 0]])->i.get k.next=D (.row U 11 [a.cells kv])->
    W (l8 (aC P ay) (.ptr r 0 0) (.ptr H.next 0 0) (.ptr (H.next+1) 0 0) (.ptr k.next 0 0) i) (fb H r T ao (bE.at pos (bif (aL.mk a ks).kind==4 then .mk {kind:=3,name:=(aL.mk a ks).name} [(bB T (hI T (.mk a ks) d.2)).1] [] []else .mk {kind:=4} [.mk a ks,(bB T (hI T (.mk a ks) d.2)).1] [] [])) (bl T [59] (bB T (hI T (.mk a ks) d.2)).2)):=
   λi a ks kv h m5 d5 z j e=>Jl aE x m5 d5 h af z j e
  rcases O:d.1 with⟨a,ks⟩;rw[O]at n;obtain⟨kv,w,-⟩:=gQ.1 n;simp only[aa.agg.injEq]at w;subst w;have u:=q;simp only[bM.cells]at u;simp-implicitDefEqProofs(disch:=try exact al)only[o5,reduceAdd,reduceLeDiff,reduceIte,ax,u];have N:=λ(h:h4 (.mk a ks)=U)=>fin c a ks kv n V (by rw[h];exact Q.rd) G K q
  cases j:(a.kind != 4)with
  |false=>
   simp-implicitDefEqProofs(disch:=try exact al)only[reduceAdd,reduceLeDiff,reduceIte,ax,u];exact N (by simp only[h4,aL.kind,j,Bool.false_and])
  |true=>
   cases e:(a.kind != 5)with
   |false=>
    simp-implicitDefEqProofs(disch:=try exact al)only[reduceAdd,reduceLeDiff,reduceIte,ax,u,e];exact N (by simp only[h4,aL.kind,j,e,Bool.false_and,Bool.and_false])
   |true=>
    cases m:(a.kind != 6)with
    |false=>
     simp-implicitDefEqProofs(disch:=try exact al)only[reduceAdd,reduceLeDiff,reduceIte,ax,u,e,m];exact N (by simp only[h4,aL.kind,j,e,m,Bool.and_false])
    |true=>
     simp-implicitDefEqProofs(disch:=try exact al)only[reduceAdd,reduceLeDiff,reduceIte,ax,u,e,m];refine aN (jG Q 2) ?_;rintro _ i ⟨rfl,m5,F⟩;refine⟨m5.1,?_⟩;exact fin i a ks kv (n.mut m5 af λ_ h=>h) (V.trans m5) (by rw[show h4 (.mk a ks)=X by simp only[h4,aL.kind,j,e,m,Bool.and_self]];exact F.rd) (m5.get G af) (m5.get K af) (m5.get q af)
 |false=>
  have aB:∀l,bV P l 41 1 [(0,.agg cs)]=D (.aA l 0 1 11 (D 1),.row U 11 [cs]):=λl=>jf l cs ae bH
  have ag:=G;simp only[b2.cells]at ag;simp-implicitDefEqProofs(disch:=try exact al)only[jd,reduceAdd,reduceLeDiff,reduceIte,ax,eV,Bool.not_false,ag,K,q,t1,aB,ad.hr];have A:∀l,l<c.next->l≠H.next->((c.set H.next (.row U 9 [b2.cells {kind:=9,pos:=pos} (.aA c.next 0 1 11 (D 1)) .ar .ar])).push (.row U 11 [cs])).get l=c.get l:=λl am an=>by simp-implicitDefEqProofs(disch:=try exact al)only[du]
  have m5:b5 r H ((c.set H.next (.row U 9 [b2.cells {kind:=9,pos:=pos} (.aA c.next 0 1 11 (D 1)) .ar .ar])).push (.row U 11 [cs])):=(V.cv (.inr (bj _)) _).bt _;have d5:bw ((c.set H.next (.row U 9 [b2.cells {kind:=9,pos:=pos} (.aA c.next 0 1 11 (D 1)) .ar .ar])).push (.row U 11 [cs])) r ao d.2:=by
   have h:=Q.rd;have:=h.lt;unfold bw at h ⊢;rw[A r af af];exact h
  have S:b8 ((c.set H.next (.row U 9 [b2.cells {kind:=9,pos:=pos} (.aA c.next 0 1 11 (D 1)) .ar .ar])).push (.row U 11 [cs])) (bf (H.next+2)) [d.1] (.aA c.next 0 1 11 (D 1)):=
   b8.mS (ro:=false) (by simp-implicitDefEqProofs(disch:=try exact al)only[du]) (by unfold bf;omega) (cr.aX (λl ro els h g=>⟨by unfold bf;omega,by rw[A l af af];exact g⟩) _ _ n)
  have z:((c.set H.next (.row U 9 [b2.cells {kind:=9,pos:=pos} (.aA c.next 0 1 11 (D 1)) .ar .ar])).push (.row U 11 [cs])).get H.next=D (.row U 9 [b2.cells {kind:=9,pos:=pos} (.aA c.next 0 1 11 (D 1)) .ar .ar]):=by simp-implicitDefEqProofs(disch:=try exact al)only[du]
  have j:=(A (H.next+1) af af).trans K;have e:=(A k.next af af).trans q;simp only[b2.cells]at m5 d5 S z j e;generalize (c.set H.next (.row U 9 [[aa.int J 9,Y [],Y [],I J 0,.aA c.next 0 1 11 (D 1),.ar,.ar,I J pos,I J 0]])).push (.row U 11 [cs])=i at m5 d5 S z j e ⊢;have F:=x.mut m5 d5;refine aN (dk d5 F.bA [59] (by simp)) ?_;rintro _ M ⟨rfl,o⟩;refine⟨o.1,?_⟩;have fin:∀(p:ad) (sM:av),b5 r M p->bw p r ao sM->W (l9 (aC P ay) (.ptr r 0 0) (.ptr H.next 0 0) (.ptr (H.next+1) 0 0) p) (fb H r T ao (.mk {kind:=9,pos:=pos} [d.1] [] []) (bl T [59] sM)):=λp sM m7 d7=>
   Ji x ((m5.trans (o.mut _)).trans m7) d7 (S.aX (c9.mut ((o.mut _).trans m7) (by unfold bf;omega) λ_ h=>h)) (m7.get (o.get z) af) (m7.get (o.get j) af)
  have R:=F.aM o;cases ap:a1 T d.2 [59]with
  |false=>
   simp-implicitDefEqProofs(disch:=try exact al)only[reduceAdd,reduceLeDiff,reduceIte,ax];simp only[Bool.false_and,aT];exact fin M _ (cP.refl _ _) R.rd
  |true=>
   have m:=o.get e;rcases O:d.1 with⟨a,ks⟩;rw[O]at n fin;obtain⟨kv,w,-⟩:=gQ.1 n;simp only[aa.agg.injEq]at w;subst w;simp only[bM.cells]at m;cases B:(a.kind != 7)with
   |false=>
    simp-implicitDefEqProofs(disch:=try exact al)only[reduceAdd,reduceLeDiff,reduceIte,ax,m,B];simp only[aL.kind,B,Bool.and_false,aT];exact fin M _ (cP.refl _ _) R.rd
   |true=>
    simp-implicitDefEqProofs(disch:=try exact al)only[reduceAdd,reduceLeDiff,reduceIte,ax,m,B];simp only[aL.kind,B,Bool.and_self,aZ];refine aN (jG R 2) ?_;rintro _ p ⟨rfl,m7,aj⟩;refine⟨m7.1,?_⟩;exact fin p _ m7 aj.rd
def rf(n:Nat):Prop:=∀{H:ad} {r:Nat} {T:List Tok} {ao:aa} {s:av},T.length<=20000000->bI H r T ao s->∀(e:bE) (s':av),o9 T n s=D (e,s')->W (aC P ay 78 [.ptr r 0 0] H) (fb H r T ao e s')
def q8(n:Nat):Prop:=∀{H:ad} {r:Nat} {T:List Tok} {ao:aa} {s:av},T.length<=20000000->bI H r T ao s->∀(l:List bE) (s':av),iS T n s=D (l,s')->W (aC P ay 56 [.ptr r 0 0] H) λv H'=>b5 r H H'/\bI H' r T ao s'/\c1 H' (bf H.next) l v
def Ct{M:Nat}{H0 H:ad}{r:Nat}{T:List Tok}{ao:aa}{s0 s:av}(a:bI H0 r T ao s0)(c:b5 r H0 H)(d:bw H r ao s){l:List bE}{v:aa}(e:c1 H (bf H0.next) l v):
  W (nw (aC P ay) M (.ptr r 0 0) v H) λj H'=>b5 r H0 H'/\bI H' r T ao (dn T [125] s)/\c1 H' (bf H0.next) l j:=by
 have k:=a.rd.lt;rw[nw];refine aN (oG (a.mut c d) [125] (by simp)) ?_;rintro _ H1 ⟨rfl,m1,i⟩;refine⟨m1.1,?_⟩;exact bb.2 ⟨c.trans m1,i,e.aX (dU.mut m1 (by unfold bf;omega) λ_ h=>h)⟩
def CL{N M:Nat}(F:∀k,k<N->rf k){H0:ad}{r:Nat}{T:List Tok}{ao:aa}{s0:av}(aE:T.length<=20000000)(j:bI H0 r T ao s0):
  ∀(n m:Nat),n<=N->n<m->∀(H:ad) (s:av) (l:List bE) (v:aa),b5 r H0 H->bw H r ao s->l.length+n<=1000000000->kB H0.next H l v->∀(l':List bE) (s':av),mO T n l s=D (l',s')->
   W (nx (aC P ay) M m (.ptr r 0 0) v H) λx H'=>b5 r H0 H'/\bI H' r T ao (dn T [125] s')/\c1 H' (bf H0.next) l' x
 |0,m,z,hm,H,s,l,v,d,i,hlen,o,l',s',h=>by simp[mO]at h
 |n+1,0,z,hm,H,s,l,v,d,i,hlen,o,l',s',h=>af
 |n+1,m+1,z,hm,H,s,l,v,d,i,hlen,o,l',s',h=>by
  have E:=j.rd.lt;have hle:=d.1;have u:=j.mut d i;simp only[mO]at h;simp only[nx];rw[sG];refine aN (jH i) ?_;rintro _ H1 ⟨rfl,rfl⟩;refine⟨bj _,?_⟩;by_cases A:s.aF=0
  ·have a:(s.aF==0)=true:=by simp[A]
   simp-implicitDefEqProofs(disch:=try exact al)only[reduceAdd,reduceLeDiff,reduceIte,ax,a];refine iP (dk i u.bA [125] (by simp)) ?_;rintro _ ak ⟨rfl,e⟩;refine⟨e.1,?_⟩;have q:=o.mut (e.mut (· =r)) E;cases B:a1 T s [125]with
   |true=>
    simp only[a,B,Bool.not_true,Bool.and_false,aT,aU,bY]at h;obtain⟨rfl,rfl⟩:=h;simp-implicitDefEqProofs(disch:=try exact al)only[reduceAdd,reduceLeDiff,reduceIte,ax,a,Bool.not_true,Bool.not_false];exact Ct j (d.trans (e.mut _)) (u.aM e).rd q.Dq
   |false=>
    simp only[a,B,Bool.not_false,Bool.and_self,aZ,cR]at h;obtain⟨⟨y,s1⟩,O,Q⟩:=h;simp-implicitDefEqProofs(disch:=try exact al)only[reduceAdd,reduceLeDiff,reduceIte,ax,a,Bool.not_true,Bool.not_false];refine aN (F n af aE (u.aM e) y s1 O) ?_;rintro w am ⟨m3,ah,he⟩;refine⟨m3.1,?_⟩;obtain⟨cs,rfl,K,bH⟩:=he.cells;have V:=q.mut m3 E;have ap:=m3.1;have n2:=e.1;obtain⟨x,H',R,S,G,an⟩:=V.app he af (λL k c p=>by
     rcases q with⟨aY,_⟩|⟨L',els,aY,aj,_⟩
     ·rw[aY]at p;cases p
     ·rw[aY]at p;cases p;exact ad.aR aj) af af
    have aB:=λl=>Mb l cs K bH
    simp-implicitDefEqProofs(disch:=try exact al)only[reduceAdd,reduceLeDiff,reduceIte,ax,aB,R,eK];have ai:b5 r H0 H':=⟨by have:=d.1;omega,λk ab ae=>by
     rw[G.2 k af af];exact((d.trans (e.mut _)).trans m3).2 k ab ae⟩
    have ag:bw H' r ao s1:=G.get ah.rd af;exact CL F aE j n m af af H' s1 (l++[y]) x ai ag (by simp only[List.length_append,List.length_cons,List.length_nil];omega) S l' s' Q
  ·have a:(s.aF==0)=false:=by simpa using A
   simp only[a,Bool.false_and,aT,aU,bY]at h;obtain⟨rfl,rfl⟩:=h;simp-implicitDefEqProofs(disch:=try exact al)only[reduceAdd,reduceLeDiff,reduceIte,ax,a,Bool.not_true];exact Ct j d i o.Dq
def I0{n:Nat}(e:n<=1000000000)(j:∀k,k<n->rf k):q8 (n+1):=by
 intro H r T ao s aE c l s' h;refine cz (λ_=>JS (n+1)) ?_;simp only[iS,cR]at h;obtain⟨⟨m,s1⟩,d,a⟩:=h;simp only[aU,bY]at a;obtain⟨rfl,rfl⟩:=a;rw[sF];refine aN (oJ c [123] (by simp)) ?_;rintro _ H1 ⟨rfl,m1,i⟩;refine⟨m1.1,?_⟩;exact CL j aE c n (n+1) (bj _) af H1 _ [] .ar m1 i.rd (by simpa using e) (.inl ⟨rfl,rfl⟩) m s1 d
structure eW(H0 H:ad)(r b3 cK:Nat)(ao:aa)(t:Tok)(s:av)(c:List aa):Prop where
 m:b5 r H0 H
 rd:bw H r ao s
 g2:H.get H0.next=some (.row false 9 [[.int .i64 0,.str [],.str [],.int .i64 0,.ar,.ar,.ar,.int .i64 0,.int .i64 0]])
 g3:H.get b3=some (.row false 4 [[.int .i64 t.kind,.str t.text,.int .i64 t.n,.int .i64 t.pos]])
 g4:H.get cK=some (.row false 9 [c])
 dI:H0.next<b3
 eY:b3<cK
def eW.mut{H0 H H':ad}{r b3 cK:Nat}{ao:aa}{t:Tok}{s s':av}{c:List aa}(h:eW H0 H r b3 cK ao t s c)(d:r<H0.next)(m:b5 r H H')(a:bw H' r ao s'):eW H0 H' r b3 cK ao t s' c:=
 ⟨h.m.trans m,a,m.get h.g2 af,m.get h.g3 (by have:=h.dI;omega),m.get h.g4 (by have:=h.dI;have:=h.eY;omega),h.dI,h.eY⟩
def eW.set{H0 H:ad}{r b3 cK:Nat}{ao:aa}{t:Tok}{s:av}{c:List aa}(h:eW H0 H r b3 cK ao t s c)(e:r<H0.next)(c':List aa):eW H0 (H.set cK (.row U 9 [c'])) r b3 cK ao t s c':=by
 have a:=h.dI;have d:=h.eY;refine⟨h.m.cv (.inr af) _,?_,?_,?_,ad.get_set_same (ad.aR h.g4),a,d⟩
 ·have:=h.rd;unfold bw at this ⊢;rw[ad.get_set_other af];exact this
 ·rw[ad.get_set_other af];exact h.g2
 ·rw[ad.get_set_other af];exact h.g3
def eW.push{H0 H:ad}{r b3 cK:Nat}{ao:aa}{t:Tok}{s:av}{c:List aa}(h:eW H0 H r b3 cK ao t s c)(d:r<H0.next)(a:bO):eW H0 (H.push a) r b3 cK ao t s c:=
 h.mut d ((aO.push H a).mut _) (h.rd.aM (aO.push H a))
section
variable {H0 H:ad}{r b3 cK:Nat}{T:List Tok}{ao:aa}{s0 s:av}{t:Tok}
def oK(k:bI H0 r T ao s0){a:b2}{es:List aL}{c d:List bE}{b6 bv e:aa}(b:eW H0 H r b3 cK ao t s (a.cells b6 bv e))(h:b8 H (bf (cK+1)) es b6)(i:c1 H (bf (cK+1)) c bv)(j:c1 H (bf (cK+1)) d e):
  W (gg (aC P ay) (.ptr H0.next 0 0) (.ptr cK 0 0) H) (fb H0 r T ao (.mk a es c d) s):=by
 have bH:=h.eb;have bX:=i.eb;have cj:=j.eb;have g2:=b.g2;have g3:=b.g4;have l:=ad.aR g2;have n:=b.dI;have o:=b.eY;simp only[b2.cells]at g3;simp-implicitDefEqProofs(disch:=try exact al)only[gg,reduceAdd,reduceLeDiff,reduceIte,ax,eV,g2,g3,bH,bX,cj];exact bb.2 (fb.fin (a:=a) k b.m b.rd h i j (bj _) af _)
def eW.expr(a:r<H0.next){e:aL}{cs c c':List aa}{L:Nat}(b:eW H0 H r b3 cK ao t s c)(he:cr H (bf (cK+1)) e (.agg cs))(d:L=H.next):eW H0 ((H.set cK (.row U 9 [c'])).push (.row U 11 [cs])) r b3 cK ao t s c'/\b8 ((H.set cK (.row U 9 [c'])).push (.row U 11 [cs])) (bf (cK+1)) [e] (.aA L 0 1 11 (D 1)):=by
 subst d;have i:=ad.aR b.g4;refine⟨(b.set a c').push a _,b8.mS (ro:=false) ?_ (by unfold bf;omega) (cr.aX ?_ e _ he)⟩
 ·exact ad.bC (H.set cK (.row U 9 [c'])) _
 ·intro l ro els h g;refine⟨h,?_⟩;unfold bf at h;exact(aO.push _ _).get (by rw[ad.get_set_other af];exact g)
def Cy(c:bI H0 r T ao s0){a:b2}{es:List aL}{b6:aa}(b:eW H0 H r b3 cK ao t s (a.cells b6 .ar .ar))(d:b8 H (bf (cK+1)) es b6):
  W (nD (aC P ay) (.ptr r 0 0) (.ptr H0.next 0 0) (.ptr cK 0 0) H) (fb H0 r T ao (.mk a es [] []) (bl T [59] s)):=by
 have e:=c.rd.lt;have j:=b.dI;have k:=b.eY;rw[nD];refine aN (gi (c.mut b.m b.rd) [59] (by simp)) ?_;rintro _ H1 ⟨rfl,m1,i⟩;refine⟨m1.1,?_⟩;exact oK c (b.mut e m1 i.rd) (d.aX (c9.mut m1 (by unfold bf;omega) λ_ h=>h)) (c1.nil _ _) (c1.nil _ _)
def CW(c:bI H0 r T ao s0){a:b2}{es:List aL}{b6:aa}(b:eW H0 H r b3 cK ao t s (a.cells b6 .ar .ar))(d:b8 H (bf (cK+1)) es b6):
  W (nE (aC P ay) (.ptr r 0 0) (.ptr H0.next 0 0) (.ptr cK 0 0) H) (fb H0 r T ao (.mk a es [] []) (bl T [59] s)):=by
 have e:=c.rd.lt;have j:=b.dI;have k:=b.eY;rw[nE];refine aN (gi (c.mut b.m b.rd) [59] (by simp)) ?_;rintro _ H1 ⟨rfl,m1,i⟩;refine⟨m1.1,?_⟩;exact oK c (b.mut e m1 i.rd) (d.aX (c9.mut m1 (by unfold bf;omega) λ_ h=>h)) (c1.nil _ _) (c1.nil _ _)
