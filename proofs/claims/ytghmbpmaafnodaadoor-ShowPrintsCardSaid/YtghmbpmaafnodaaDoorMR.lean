/-
  Texts of one proof, laid together: ShPa Re Rf Rg ShT V1 V2.
-/
import Derived.Test.YtghmbpmaafnodaaDoorMP
set_option linter.unusedVariables false
set_option linter.unusedSimpArgs false
set_option linter.defProp false
open Option renaming some→D,none→Z
open Bool renaming true→X,false→U
open Go.cn.ad renaming int→I,str→Y,bool→C
open Go.IntKind renaming i64→J
namespace Go.Proofs.YtghmbpmaafnodaaDoor
open Go.cn
open Nat (reduceAdd reduceLeDiff)
section
set_option maxRecDepth 100000
noncomputable section
def nO(G:ay)(N:Nat)(e h:ad)(ba q:ad)(H:ae):O:=aI H (G 21 [ba] H) λm d=>j (fZ .not m) λn=>aU (D n) (bd d (aY P d 26 e (.agg [ad.az,ad.az,ad.az])) λa=>j (b7 ba) λo=>j (aH P 59 o 3) λk=>j (aq P a 29 k) λl=>bd a (aY P a 29 h l) λc=>bif ((bh (aq P d 29 k) l&&(bh (aq P a 29 k) l&&X))&&X)then(j (aq P c 26 e) λr=>j (aq P c 29 h) λi=>D (.tuple [r,i],c))else Z) (j (aq P d 26 q) λp=>bd d (aY P d 26 e p) λa=>bd a (aY P a 29 h (.agg [I J 0,I J 0])) λc=>j (aq P c 26 e) λr=>j (aq P c 29 h) λi=>D (.tuple [r,i],c))
def O6(G:ay)(N:Nat):∀aa H,bl P G N (o (o (o (o (o (o (bs Tryd.f9))))))) (bf Tryd.f9) [] (bf Tryd.f9) aa H=nO G N (aa 2) (aa 3) (aa 6) (aa 7) H:=by
 refine bC (aF _) λaa H=> ?_
 delta nO;kernel_rfl
def j0(G:ay)(N:Nat)(l:ad->ad->ad->ad->ae->O)(n o:ad)(ba e M:ad)(H:ae):O:=aU (D M) (aI H (G 24 [ba,I J 4] H) λaE k=>l n o ba e k) (aI H (G 23 [ba,Y [114,101,99,111,114,100]] H) λQ k=>aU (D Q) (j (b7 ba) λR=>j (aH P 59 R 1) λS=>j (aq P k 3 S) λT=>j (ao P .add 3 X T (I J 1)) λV=>j (b7 ba) λW=>j (aH P 59 W 1) λaa=>bd k (aY P k 3 aa V) λh=>aI h (G 25 [ba] h) λab a=>j (aH P 26 e 0) λs=>j (aq P a 22 s) λu=>b1 a (b6 P (a).next 22 1 [(0,ab)]) λaf c=>aI c (c0 P c [22,22] u af) λag d=>j (aH P 26 e 0) λah=>bd d (aY P d 22 ah ag) λi=>bif ((bh (aq P h 22 s) u&&(bh (aq P a 22 s) u&&(bh (aq P c 22 s) u&&X)))&&X)then(l n o ba e i)else Z) (aI k (G 23 [ba,Y [103,108,111,98,97,108]] k) λai h=>aU (D ai) (j (b7 ba) λaj=>j (aH P 59 aj 1) λak=>j (aq P h 3 ak) λal=>j (ao P .add 3 X al (I J 1)) λam=>j (b7 ba) λan=>j (aH P 59 an 1) λap=>bd h (aY P h 3 ap am) λa=>aI a (G 26 [ba] a) λar c=>j (aH P 26 e 1) λv=>j (aq P c 23 v) λw=>b1 c (b6 P (c).next 23 1 [(0,ar)]) λau d=>aI d (c0 P d [23,23] w au) λav i=>j (aH P 26 e 1) λaw=>bd i (aY P i 23 aw av) λm=>bif ((bh (aq P a 23 v) w&&(bh (aq P c 23 v) w&&(bh (aq P d 23 v) w&&X)))&&X)then(aI m (G 27 [ba,Y [59]] m) λaF x=>l n o ba e x)else Z) (aI h (G 23 [ba,Y [102,117,110,99]] h) λax a=>aU (D ax) (j (b7 ba) λaA=>j (aH P 59 aA 1) λaB=>j (aq P a 3 aB) λy=>j (ao P .add 3 X y (I J 1)) λz=>j (b7 ba) λA=>j (aH P 59 A 1) λB=>bd a (aY P a 3 B z) λc=>aI c (G 28 [ba] c) λE d=>j (aH P 26 e 2) λp=>j (aq P d 24 p) λq=>b1 d (b6 P (d).next 24 1 [(0,E)]) λF i=>aI i (c0 P i [24,24] q F) λK m=>j (aH P 26 e 2) λL=>bd m (aY P m 24 L K) λx=>bif ((bh (aq P c 24 p) q&&(bh (aq P d 24 p) q&&(bh (aq P i 24 p) q&&X)))&&X)then(l n o ba e x)else Z) (aI a (G 24 [ba,I J 2] a) λaC c=>l n o ba e c))))
def O7(G:ay)(N:Nat)(a:ad->ad->ad->ad->ae->O):∀aa H,bl P G N (o (aN (aN (o (aN (aN (aN (o (o (o (o (o (bs Tryd.f9))))))))))))) (λaa H=>a (aa 2) (aa 3) (aa 6) (aa 7) H) [(2,(λaa H=>a (aa 2) (aa 3) (aa 6) (aa 7) H)),(1,(λaa H=>a (aa 2) (aa 3) (aa 6) (aa 7) H)),(0,(λaa H=>nO G N (aa 2) (aa 3) (aa 6) (aa 7) H))] (bf Tryd.f9) aa H=j0 G N a (aa 2) (aa 3) (aa 6) (aa 7) (aa 31) H:=by
 refine bC (aF _) λaa H=> ?_
 delta j0;kernel_rfl
def uX(G:ay)(N:Nat)(l:ad->ad->ad->ad->ae->O)(i k:ad)(ba a:ad)(H:ae):O:=aI H (G 21 [ba] H) λc K=>aX c X K (cI ba) λab o=>aX c X o (λq=>fj o (G 22 [ab] o) q) λaf T=>aX c X T (bU (cN P 61 af 0)) λag V=>aX c X V (bU (ao P .neq 3 X ag (I J 0))) λah p=>j (dd c (D ah) (D (C U))) λai=>aU (D ai) (aI p (G 23 [ba,Y [114,101,99,111,114,100]] p) λd W=>aX d X W (bU (aH P 26 a 0)) λaj x=>aX d X x (qr (aq P x 22 aj)) λz y=>aX d X y (λq=>h8 (cg P .empty .len [22] [z]) (cg P y .len [22] [z]) q) λak aa=>aX d X aa (bU (ao P .eql 3 X ak (I J 12))) λal m=>j (dd d (D al) (D (C U))) λA=>aU (D A) (j0 G N l i k ba a A m) (aI m (G 23 [ba,Y [103,108,111,98,97,108]] m) λe L=>aX e X L (bU (aH P 26 a 1)) λam s=>aX e X s (qr (aq P s 23 am)) λB u=>aX e X u (λq=>h8 (cg P .empty .len [23] [B]) (cg P u .len [23] [B]) q) λan M=>aX e X M (bU (ao P .eql 3 X an (I J 8))) λap n=>j (dd e (D ap) (D (C U))) λE=>aU (D E) (j0 G N l i k ba a E n) (aI n (G 23 [ba,Y [102,117,110,99]] n) λh Q=>aX h X Q (bU (aH P 26 a 2)) λar v=>aX h X v (qr (aq P v 24 ar)) λF w=>aX h X w (λq=>h8 (cg P .empty .len [24] [F]) (cg P w .len [24] [F]) q) λau R=>aX h X R (bU (ao P .eql 3 X au (I J 16))) λav S=>j (dd h (D av) (D (C U))) λaw=>j0 G N l i k ba a aw S))) (nO G N i k ba a p)
def mw(G:ay)(N:Nat):Nat->ad->ad->ad->ad->ae->O
 |0,_,_,_,_,_=>Z
 |n+1,a,c,ba,d,H=>uX G N (mw G N n) a c ba d H
def O5(G:ay)(N:Nat)(a:ad->ad->ad->ad->ae->O):∀aa H,bl P G N (aN (aN (aN (o (o (o (o (o (bs Tryd.f9))))))))) (λaa H=>a (aa 2) (aa 3) (aa 6) (aa 7) H) [(0,(λaa H=>nO G N (aa 2) (aa 3) (aa 6) (aa 7) H))] (bf Tryd.f9) aa H=uX G N a (aa 2) (aa 3) (aa 6) (aa 7) H:=by
 refine bC ((aM ah ((cX ah ((cX ah ((aM ah (O7 G N a) (aF _))))))) (aF _))) λaa H=> ?_
 delta uX;generalize nO G N=c;generalize j0 G N a=d;revert c d;refine id ?_;intro c d;kernel_rfl
def sw(G:ay)(N:Nat)(ag:ad)(H:ae):O:=cT H [ad.az,ad.az,ad.az] λi o=>cT o [I J 0,I J 0] λk l=>aI l (G 14 [ag] l) λn p=>j (ic n 0) λs=>j (ic n 1) λu=>cT p [I J 0,I J 0] λe m=>bd m (aY P m 29 e u) λa=>j (aH P 29 e 0) λv=>j (aq P a 27 v) λw=>j (ao P .neq 27 X w (I J 0)) λx=>aU (D x) (bd a (aY P a 26 i (.agg [ad.az,ad.az,ad.az])) λc=>j (aq P c 29 e) λh=>bd c (aY P c 29 k h) λd=>bif ((bh (aq P a 29 e) h&&(bh (aq P c 29 e) h&&X))&&X)then(j (aq P d 26 i) λr=>j (aq P d 29 k) λq=>D (.tuple [r,q],d))else Z) (j (cC P 59 [(0,s)]) λy=>b1 a (d_ (a).next y) λz c=>cT c [ad.az,ad.az,ad.az] λA d=>mw G N N i k z A d)
def MW(N:Nat){ag:ad}{H:ae}{r:ad×ae}(h:sw (aE P aA) N ag H=D r):aE P aA 9 [ag] H=D r:=cS N (S:=λG=>sw G N ag H) Tryd.func9 (λG=>dX ((aM ah ((aM ah ((aM ah ((aM ah ((aM ah ((aM ah (O6 G N) ((cX ah ((dW (k:=λm aa H=>mw G N m (aa 2) (aa 3) (aa 6) (aa 7) H) ah (λaa H=>ah) (λm=>O5 G N (mw G N m)))))))) (aF _))) (aF _))) (aF _))) (aF _))) (aF _))) (by delta sw;generalize mw G N N=a;revert a;refine id ?_;intro a;kernel_rfl)) h
def me(G:ay)(N:Nat)(ag d e:ad)(H:ae):O:=aI H (G 27 [ag,Y [125]] H) λi a=>j (aq P a 65 e) λh=>bd a (aY P a 65 d h) λc=>j (aq P c 65 d) λr=>D (r,c)
def NI(G:ay)(N:Nat):∀aa H,bl P G N (o (o (o (o (o (bs Tryd.f25)))))) (bf Tryd.f25) [] (bf Tryd.f25) aa H=me G N (aa 0) (aa 2) (aa 3) H:=by
 refine bC (aF _) λaa H=> ?_
 delta me;kernel_rfl
def ux(G:ay)(N:Nat)(x:ad->ad->ad->ae->O)(ag o c:ad)(H:ae):O:=aI H (G 21 [ag] H) λh y=>aX h X y (cI ag) λbS m=>aX h X m (λq=>fj m (G 23 [bS,Y [125]] m) q) λF A=>aX h X A (bU (fZ .not F)) λK n=>j (dd h (D K) (D (C U))) λL=>aU (D L) (aI n (G 22 [ag] n) λM B=>j (cN P 61 M 0) λQ=>j (ao P .eql 3 X Q (I J 1)) λe=>aX e X B (bU (aH P 65 c 1)) λR u=>aX e X u (qr (aq P u 23 R)) λw v=>aX e X v (λq=>h8 (cg P .empty .len [23] [w]) (cg P v .len [23] [w]) q) λS E=>aX e X E (bU (ao P .eql 3 X S (I J 8))) λT d=>j (dd e (D T) (D (C U))) λV=>aU (D V) (aI d (G 24 [ag,I J 4] d) λah a=>me G N ag o c a) (aI d (G 26 [ag] d) λW a=>j (aH P 65 c 1) λi=>j (aq P a 23 i) λk=>b1 a (b6 P (a).next 23 1 [(0,W)]) λaa l=>aI l (c0 P l [23,23] k aa) λab p=>j (aH P 65 c 1) λaf=>bd p (aY P p 23 af ab) λs=>bif ((bh (aq P d 23 i) k&&(bh (aq P a 23 i) k&&(bh (aq P l 23 i) k&&X)))&&X)then(aI s (G 27 [ag,Y [59]] s) λai z=>x ag o c z)else Z)) (me G N ag o c n)
def ns(G:ay)(N:Nat):Nat->ad->ad->ad->ae->O
 |0,_,_,_,_=>Z
 |n+1,ag,a,c,H=>ux G N (ns G N n) ag a c H
def NH(G:ay)(N:Nat)(c:ad->ad->ad->ae->O):∀aa H,bl P G N (aN (aN (aN (o (o (o (o (bs Tryd.f25)))))))) (λaa H=>c (aa 0) (aa 2) (aa 3) H) [(0,(λaa H=>me G N (aa 0) (aa 2) (aa 3) H))] (bf Tryd.f25) aa H=ux G N c (aa 0) (aa 2) (aa 3) H:=by
 refine bC (aF _) λaa H=> ?_
 delta ux;generalize me G N=a;revert a;refine id ?_;intro a;kernel_rfl
def uw(G:ay)(N:Nat)(ag:ad)(H:ae):O:=cT H [Y [],ad.az,I J 0] λn c=>aI c (G 22 [ag] c) λo k=>j (cN P 61 o 3) λba=>j (cC P 65 [(2,ba)]) λp=>cT k [Y [],ad.az,I J 0] λa d=>bd d (aY P d 65 a p) λe=>aI e (G 55 [ag] e) λq h=>j (aH P 65 a 0) λm=>bd h (aY P h 9 m q) λi=>aI i (G 27 [ag,Y [123]] i) λs l=>ns G N N ag n a l
def Mf(N:Nat){ag:ad}{H:ae}{r:ad×ae}(h:uw (aE P aA) N ag H=D r):aE P aA 25 [ag] H=D r:=cS N (S:=λG=>uw G N ag H) Tryd.func25 (λG=>dX ((aM ah ((aM ah ((aM ah ((aM ah ((aM ah (NI G N) ((cX ah ((dW (k:=λm aa H=>ns G N m (aa 0) (aa 2) (aa 3) H) ah (λaa H=>ah) (λm=>NH G N (ns G N m)))))))) (aF _))) (aF _))) (aF _))) (aF _))) (by delta uw;generalize ns G N N=a;revert a;refine id ?_;intro a;kernel_rfl)) h
def uy(G:ay)(ag:ad)(H:ae):O:=cT H [Y [],Y [],I J 0,I J 0] λo d=>aI d (G 22 [ag] d) λv p=>j (cN P 61 v 3) λba=>j (cC P 68 [(2,ba)]) λw=>cT p [Y [],Y [],I J 0,I J 0] λa h=>bd h (aY P h 68 a w) λi=>aI i (G 55 [ag] i) λx k=>j (aH P 68 a 0) λq=>bd k (aY P k 9 q x) λl=>aI l (G 27 [ag,Y [58]] l) λy m=>aI m (G 53 [ag] m) λs n=>j (aH P 68 a 1) λu=>bd n (aY P n 40 u s) λc=>j (aq P c 68 a) λbS=>bd c (aY P c 68 o bS) λe=>j (aq P e 68 o) λr=>D (r,e)
def Mg(N:Nat){ag:ad}{H:ae}{r:ad×ae}(h:uy (aE P aA) ag H=D r):aE P aA 26 [ag] H=D r:=cS N (S:=λG=>uy G ag H) Tryd.func26 (λ_=>by delta uy;kernel_rfl) h
def oY(G:ay)(N:Nat)(ag e h:ad)(H:ae):O:=aI H (G 56 [ag] H) λi c=>j (aH P 73 h 4) λk=>bd c (aY P c 71 k i) λa=>j (aq P a 73 h) λl=>bd a (aY P a 73 e l) λd=>j (aq P d 73 e) λr=>D (r,d)
def NL(G:ay)(N:Nat):∀aa H,bl P G N (o (o (o (o (o (o (o (bs Tryd.f28)))))))) (bf Tryd.f28) [] (bf Tryd.f28) aa H=oY G N (aa 0) (aa 2) (aa 3) H:=by
 refine bC (aF _) λaa H=> ?_
 delta oY;kernel_rfl
def lj(G:ay)(N:Nat)(ag k c:ad)(H:ae):O:=aI H (G 27 [ag,Y [41]] H) λy d=>aI d (G 23 [ag,Y [58]] d) λm a=>aU (D m) (j (b7 ag) λn=>j (aH P 59 n 1) λo=>j (aq P a 3 o) λp=>j (ao P .add 3 X p (I J 1)) λq=>j (b7 ag) λs=>j (aH P 59 s 1) λu=>bd a (aY P a 3 u q) λe=>j (aH P 73 c 2) λv=>bd e (aY P e 4 v (C X)) λh=>aI h (G 53 [ag] h) λw i=>j (aH P 73 c 3) λx=>bd i (aY P i 40 x w) λl=>oY G N ag k c l) (oY G N ag k c a)
def NK(G:ay)(N:Nat):∀aa H,bl P G N (o (o (o (o (o (bs Tryd.f28)))))) (bf Tryd.f28) [] (bf Tryd.f28) aa H=lj G N (aa 0) (aa 2) (aa 3) H:=by
 refine bC ((aM ah ((aM ah (NL G N) (aF _))) (aF _))) λaa H=> ?_
 delta lj;generalize oY G N=a;revert a;refine id ?_;intro a;kernel_rfl
def uA(G:ay)(N:Nat)(m:ad->ad->ad->ae->O)(ag e a:ad)(H:ae):O:=aI H (G 21 [ag] H) λi B=>aX i X B (cI ag) λbS s=>aX i X s (λq=>fj s (G 23 [bS,Y [41]] s) q) λM F=>aX i X F (bU (fZ .not M)) λQ u=>j (dd i (D Q) (D (C U))) λR=>aU (D R) (aI u (G 22 [ag] u) λS K=>j (cN P 61 S 0) λT=>j (ao P .eql 3 X T (I J 1)) λh=>aX h X K (bU (aH P 73 a 1)) λV y=>aX h X y (qr (aq P y 23 V)) λA z=>aX h X z (λq=>h8 (cg P .empty .len [23] [A]) (cg P z .len [23] [A]) q) λW L=>aX h X L (bU (ao P .eql 3 X W (I J 6))) λaa d=>j (dd h (D aa) (D (C U))) λab=>aU (D ab) (aI d (G 24 [ag,I J 4] d) λan c=>lj G N ag e a c) (aI d (G 26 [ag] d) λaf c=>j (aH P 73 a 1) λk=>j (aq P c 23 k) λl=>b1 c (b6 P (c).next 23 1 [(0,af)]) λah n=>aI n (c0 P n [23,23] l ah) λai v=>j (aH P 73 a 1) λaj=>bd v (aY P v 23 aj ai) λw=>bif ((bh (aq P d 23 k) l&&(bh (aq P c 23 k) l&&(bh (aq P n 23 k) l&&X)))&&X)then(aI w (G 23 [ag,Y [41]] w) λak o=>j (fZ .not ak) λal=>aU (D al) (aI o (G 27 [ag,Y [44]] o) λap x=>aI x (G 23 [ag,Y [41]] x) λam p=>aU (D am) (aI p (G 24 [ag,I J 2] p) λar E=>m ag e a E) (m ag e a p)) (m ag e a o))else Z)) (lj G N ag e a u)
def lk(G:ay)(N:Nat):Nat->ad->ad->ad->ae->O
 |0,_,_,_,_=>Z
 |n+1,ag,a,c,H=>uA G N (lk G N n) ag a c H
def NJ(G:ay)(N:Nat)(c:ad->ad->ad->ae->O):∀aa H,bl P G N (aN (aN (aN (o (o (o (o (bs Tryd.f28)))))))) (λaa H=>c (aa 0) (aa 2) (aa 3) H) [(0,(λaa H=>lj G N (aa 0) (aa 2) (aa 3) H))] (bf Tryd.f28) aa H=uA G N c (aa 0) (aa 2) (aa 3) H:=by
 refine bC (aF _) λaa H=> ?_
 delta uA;generalize lj G N=a;revert a;refine id ?_;intro a;kernel_rfl
def uz(G:ay)(N:Nat)(ag:ad)(H:ae):O:=cT H [Y [],ad.az,C U,Y [],I J 0,ad.az,I J 0] λn c=>aI c (G 22 [ag] c) λo k=>j (cN P 61 o 3) λba=>j (cC P 73 [(5,ba)]) λp=>cT k [Y [],ad.az,C U,Y [],I J 0,ad.az,I J 0] λa d=>bd d (aY P d 73 a p) λe=>aI e (G 55 [ag] e) λq h=>j (aH P 73 a 0) λm=>bd h (aY P h 9 m q) λi=>aI i (G 27 [ag,Y [40]] i) λs l=>lk G N N ag n a l
def Mi(N:Nat){ag:ad}{H:ae}{r:ad×ae}(h:uz (aE P aA) N ag H=D r):aE P aA 28 [ag] H=D r:=cS N (S:=λG=>uz G N ag H) Tryd.func28 (λG=>dX ((aM ah ((aM ah ((aM ah ((aM ah ((aM ah (NK G N) ((cX ah ((dW (k:=λm aa H=>lk G N m (aa 0) (aa 2) (aa 3) H) ah (λaa H=>ah) (λm=>NJ G N (lk G N m)))))))) (aF _))) (aF _))) (aF _))) (aF _))) (by delta uz;generalize lk G N N=a;revert a;refine id ?_;intro a;kernel_rfl)) h
end
end
section
variable {H H':ae}{r:Nat}{T:List Tok}{au:ad}{s s':an}
def xT(h:bQ H r T au s):W (aE P aA 26 [.ptr r 0 0] H) λv H'=>v= .agg (c9 T s).1.cells/\ca r H H'/\bQ H' r T au (c9 T s).2:=by
 refine cG (λ_=>Mg 0) ?_;have ao:=h.rd.lt;have c:=aP.push H (.row U 4 [[Y [],Y [],I J 0,I J 0]]);have K:=ae.bM H (.row U 4 [[Y [],Y [],I J 0,I J 0]]);simp-implicitDefEqProofs(disch:=try exact aj)only[uy,bg,bx,List.length_cons,List.length_nil,Nat.zero_add,Nat.reduceAdd];refine aO (h3 (h.rd.aL c) (h.aL c).bL) ?_;rintro _ H1 ⟨rfl,a⟩;refine⟨a.1,?_⟩;have ag:=a.1;simp only[ae.b8]at ag;have F:=(h.aL c).aL a;have L:=a.get K;unfold c9 df;generalize al T s.at_=q;obtain⟨k,x,z,p⟩:=q;have j:=aP.push H1 (.row U 4 [[Y [],Y [],I J 0,I J p]]);have Q:=ae.bM H1 (.row U 4 [[Y [],Y [],I J 0,I J p]])
 simp-implicitDefEqProofs(disch:=try exact aj)only[bg,bx,eg,aq,cL,aY,cL,Nat.reduceAdd,Nat.reduceLeDiff,reduceIte,ad.cells,cQ,dN,dO,ae.h1,Tok.v];refine aO (nh (F.aL j)) ?_;rintro _ m ⟨rfl,m3,e⟩;refine⟨m3.1,?_⟩;have ah:=m3.1;simp only[ae.b8]at ah;have M:=m3.get (j.get L) af;have w:=m3.get Q af;have dH:=ae.aV w;generalize bq T s=o at e ⊢;obtain⟨cq,e1⟩:=o;simp only at e ⊢;have V:=((((c.mut (· =r)).trans (a.mut _)).trans (j.mut _)).trans m3);have B:=V.cW (l:=H1.next) (.inr af) (.row U 4 [[Y cq,Y [],I J 0,I J p]]);have G:=h.mut B (show bJ _ r au e1 by unfold bJ;rw[ae.get_set_other af];exact e.rd)
 have N:(m.set H1.next (.row U 4 [[Y cq,Y [],I J 0,I J p]])).get H.next=D (.row U 4 [[Y [],Y [],I J 0,I J 0]]):=by rw[ae.get_set_other af];exact M
 have R:(m.set H1.next (.row U 4 [[Y cq,Y [],I J 0,I J p]])).get H1.next=D (.row U 4 [[Y cq,Y [],I J 0,I J p]]):=ae.get_set_same dH
 simp-implicitDefEqProofs(disch:=try exact aj)only[bg,bx,eg,aq,cL,aY,cL,Nat.reduceAdd,Nat.reduceLeDiff,reduceIte,ad.cells,cQ,dN,dO,w];refine aO (gN G [58] (by simp)) ?_;rintro _ am ⟨rfl,m5,n⟩;refine⟨m5.1,?_⟩;have ai:=m5.1;simp only[ae.dz]at ai;have O:=m5.get N af;have S:=m5.get R af;generalize a_ T [58] e1=ak at n ⊢;simp-implicitDefEqProofs(disch:=try exact aj)only[bg,bx];refine aO (si n) ?_;rintro _ an ⟨rfl,m6,i⟩;refine⟨m6.1,?_⟩;have av:=m6.1;have u:=m6.get O af;have A:=m6.get S af;have ap:=ae.aV u;have ar:=ae.aV A;generalize cO T ak=o at i ⊢;obtain⟨⟨y,d⟩,aw⟩:=o;simp only at i ⊢;have aa:=(B.trans m5).trans m6
 have ab:=aa.cW (l:=H1.next) (.inr af) (.row U 4 [[Y cq,Y y,I J d,I J p]]);have E:=ab.cW (l:=H.next) (.inr (bm _)) (.row U 4 [[Y cq,Y y,I J d,I J p]]);simp-implicitDefEqProofs(disch:=try exact aj)only[reduceAdd,reduceLeDiff,reduceIte,ax,u,A];exact bb.2 ⟨rfl,E,h.mut E (by unfold bJ;rw[ae.get_set_other af,ae.get_set_other af];exact i.rd)⟩
end
section
variable {H H' H1:ae}{r:Nat}{T:List Tok}{au:ad}{s s':an}
def bQ.ov{s0:an}(h:bQ H1 r T au s0)(m:iE r H1.next H1 H')(a:bJ H' r au s'):bQ H' r T au s':=
 ⟨a,h.bL.aW λl ro els e=>m.get e (by
  have:=ae.aV e;rintro(rfl|c)
  ·rw[h.rd]at e;simp only[aS,bW.row.injEq]at e;omega
  ·omega)⟩
structure fY(H1 H:ae)(r b c n2 esz:Nat)(T:List Tok)(au:ad)(z:List ad)(x:ad)(rest:List ad)(l:List bF)(v:ad)(s:an):Prop where
 cP:bQ H r T au s
 two:H.get b=some (.row false esz [z])
 cell:H.get c=some (.row false esz [x::v::rest])
 gR:c_ e5 (bn n2) H l v
 m:iE r H1.next H1 H
 bz:r<H1.next
 bH:H1.next<=b
 jr:b<c
 bZ:c<n2
 dF:n2<=H.next
variable {b c n2 esz:Nat}{z:List ad}{x:ad}{rest:List ad}{l:List bF}{v:ad}
def fY.mut(h:fY H1 H r b c n2 esz T au z x rest l v s)(m:ca r H H')(cP:bQ H' r T au s'):fY H1 H' r b c n2 esz T au z x rest l v s':=by
 have bz:=h.bz;have bH:=h.bH;have bZ:=h.bZ;have dF:=h.dF;have jr:=h.jr;exact⟨cP,m.get h.two af,m.get h.cell af,h.gR.aW (cY.mut m λk a=>by unfold bn at a;omega),h.m.trans m.tJ,bz,bH,jr,bZ,by have:=m.1;omega⟩
def fY.add{s0:an}(u:bQ H1 r T au s0)(h:fY H1 H r b c n2 esz T au z x rest l v s)(w:l.length<=1000000000)(p:bF):
  ∃i H',c0 P (H.push (.row U 4 [p.cells])) [23,23] v (.aD H.next 0 1 4 (D 1))=D (i,H')/\H.next+1<=H'.next/\i.one=X/\H'.get c=D (.row U esz [x::v::rest])/\(H.push (.row U 4 [p.cells])).get c=D (.row U esz [x::v::rest])/\fY H1 (H'.set c (.row U esz [x::i::rest])) r b c n2 esz T au z x rest (l++[p]) i s:=by
 have bz:=h.bz;have bH:=h.bH;have bZ:=h.bZ;have dF:=h.dF;have jr:=h.jr;obtain⟨i,H',a,n,q,d⟩:=h.gR.pm p (by unfold bn;omega) w;have gc:H'.get c=D (.row U esz [x::v::rest]):=by rw[d c af (by unfold bn;omega)];exact h.cell
 have lc:=ae.aV gc;have o:iE r H1.next H1 (H'.set c (.row U esz [x::i::rest])):=h.m.trans ⟨by simp;omega,λk j aB=>by
  have y:k≠r:=λe=>aB (.inl e)
  have A:¬H1.next<=k:=λe=>aB (.inr e)
  rw[ae.get_set_other af,d k j (by unfold bn;omega)]⟩
 refine⟨i,H',a,q,n.one,gc,(aP.push _ _).get h.cell,?_,by rw[ae.get_set_other af,d b af (by unfold bn;omega)];exact h.two,ae.get_set_same lc,n.aW λk x j g=>⟨j,by unfold bn at j;rw[ae.get_set_other af];exact g⟩,o,bz,bH,jr,bZ,by simp;omega⟩;exact u.ov o (by unfold bJ;rw[ae.get_set_other af,d r af (by unfold bn;omega)];exact h.cP.rd)
def E1{N:Nat}{Q:ad->ae->Prop}{cq:aG}{am:Int}{s0:an}(V:bQ H1 r T au s0){l':List bF}
  (x:∀H v,fY H1 H r b c n2 3 T au z (Y cq) [I J am] l' v s'->W (me (aE P aA) N (.ptr r 0 0) (.ptr b 0 0) (.ptr c 0 0) H) Q):
  ∀(n m:Nat) (H:ae) (s:an) (l:List bF) (v:ad),n<m->l.length+n<=1000000000->fY H1 H r b c n2 3 T au z (Y cq) [I J am] l v s->kX T n l s=D (l',s')->W (ns (aE P aA) N m (.ptr r 0 0) (.ptr b 0 0) (.ptr c 0 0) H) Q
 |_,0,_,_,_,_,aF,_,_,_=>af
 |0,m+1,_,_,_,_,_,_,_,a=>by cases a
 |n+1,m+1,H,s,l,v,aF,a3,h,a=>by
  rw[kX]at a;rw[ns];unfold ux;refine aO (k9 h.cP.rd) ?_;rintro _ aX ⟨rfl,rfl⟩;refine⟨bm _,?_⟩;by_cases S:s.ak=0
  ·have e:(s.ak==0)=true:=by simpa using S
   simp-implicitDefEqProofs(disch:=try exact aj)only[bg,bx,e];refine kb (dA h.cP.rd h.cP.bL [125] (by simp)) ?_;rintro _ a0 ⟨rfl,L⟩;refine⟨L.1,?_⟩;have o:=h.mut (L.mut _) (h.cP.aL L);rw[e,Bool.true_and]at a;cases ai:aZ T s [125]with
   |true=>
    rw[ai]at a;cases a;simp-implicitDefEqProofs(disch:=try exact aj)only[bg,bx,e,Bool.not_true];exact x _ _ o
   |false=>
    rw[ai,Bool.not_false,aR]at a;simp-implicitDefEqProofs(disch:=try exact aj)only[bg,bx,e,Bool.not_false];refine aO (h3 o.cP.rd o.cP.bL) ?_;rintro _ k ⟨rfl,M⟩;refine⟨M.1,?_⟩;have d:=o.mut (M.mut _) (o.cP.aL M);have K:=λH'=>d.gR.k2 H'
    have a4:=d.gR.rd;have y:=d.cell;have a5:=d.gR.one;have go:((al T s.at_).kind==1&&l.length==8)=X->W (aI k (aE P aA 24 [.ptr r 0 0,I J 4] k) λa7 i=>me (aE P aA) N (.ptr r 0 0) (.ptr b 0 0) (.ptr c 0 0) i) Q:=λhm=>by
     rw[hm,aR]at a;cases a;refine aO (kr d.cP 4) ?_;rintro _ a1 ⟨rfl,m5,aN⟩;exact⟨m5.1,x _ _ (d.mut m5 aN)⟩
    have on:((al T s.at_).kind==1&&l.length==8)=U->W (aI k (aE P aA 26 [.ptr r 0 0] k) λaT i=>
      j (aH P 65 (.ptr c 0 0) 1) λB=>j (aq P i 23 B) λE=>b1 i (b6 P (i).next 23 1 [(0,aT)]) λaU F=>aI F (c0 P F [23,23] E aU) λaV aa=>j (aH P 65 (.ptr c 0 0) 1) λaW=>bd aa (aY P aa 23 aW aV) λab=>
      bif ((bh (aq P k 23 B) E&&(bh (aq P i 23 B) E&&(bh (aq P F 23 B) E&&X)))&&X)then(aI ab (aE P aA 27 [.ptr r 0 0,Y [59]] ab) λa8 aB=>ns (aE P aA) N m (.ptr r 0 0) (.ptr b 0 0) (.ptr c 0 0) aB)else Z) Q:=λhm=>by
     rw[hm,aK]at a;refine aO (xT d.cP) ?_;rintro _ O ⟨rfl,m6,aP⟩;refine⟨m6.1,?_⟩;have w:=d.mut m6 aP;have aC:=w.cell;have aJ:=w.gR.rd;generalize c9 T s=q at w a;obtain⟨p,a6⟩:=q;obtain⟨aS,ao,aw,ay,R,ar,av,ag⟩:=w.add V af p;have aM:=sB rS O.next (cs:=p.cells) rfl rfl
     have a2:(O.push (.row U 4 [p.cells])).next<=ao.next:=by simp only[ae.b8];exact ay
     have ah:=iI R;simp only[ad.cells]at ah;simp-implicitDefEqProofs(disch:=try exact aj)only[bg,bx,eg,aq,cL,aY,cL,Nat.reduceAdd,Nat.reduceLeDiff,reduceIte,ad.cells,cQ,dN,dO,ah,aC,aM,aw,e2,ar,av,R,aJ,y];refine aO (gN ag.cP [59] (by simp)) ?_;rintro _ ap ⟨rfl,m8,aQ⟩;refine⟨m8.1,?_⟩;exact E1 V x n m ap _ _ aS af (by simp;omega) (ag.mut m8 aQ) a
    cases u:(al T s.at_).kind==1 with
    |true=>
     rw[u]at go on;cases A:l.length==8 with
     |true=>
      have G:((l.length:Int)==8)=true:=by
       have:l.length=8:=by simpa using A
       simp;omega
      rw[A]at go;simp-implicitDefEqProofs(disch:=try exact aj)only[reduceAdd,reduceLeDiff,reduceIte,ax,Tok.v,y,K,u,G];exact go rfl
     |false=>
      have G:((l.length:Int)==8)=false:=by
       have:l.length≠8:=by simpa using A
       simp;omega
      rw[A]at on;simp-implicitDefEqProofs(disch:=try exact aj)only[reduceAdd,reduceLeDiff,reduceIte,ax,Tok.v,y,K,u,G];exact on rfl
    |false=>
     rw[u]at on;simp-implicitDefEqProofs(disch:=try exact aj)only[reduceAdd,reduceLeDiff,reduceIte,ax,Tok.v,y,K,u];exact on rfl
  ·have e:(s.ak==0)=false:=by simpa using S
   rw[e]at a;cases a;simp-implicitDefEqProofs(disch:=try exact aj)only[bg,bx,e];exact x _ _ h
end
section
variable {H H' H1:ae}{r:Nat}{T:List Tok}{au:ad}{s s':an}
def iE.mt(m:iE r H.next H H'):ca r H H':=⟨m.1,λl a aB=>m.2 l a λe=>by
 rcases e with e|e
 ·exact aB e
 ·omega⟩
def L3{n:Nat}(ax:n<=1000000000)(h:bQ H r T au s){x:e9}(F:l2 T n s=D (x,s')):W (aE P aA 25 [.ptr r 0 0] H) λv H'=>(∃cs,v= .agg cs/\hV.V H' (bn H.next) x cs)/\ca r H H'/\bQ H' r T au s':=by
 refine cG (λ_=>Mf (n+1)) ?_;have aw:=h.rd.lt;unfold l2 at F;obtain⟨⟨l',O⟩,j,G⟩:=c1.1 F;simp only[aS,b5]at G;obtain⟨rfl,rfl⟩:=G;have d:=aP.push H (.row U 3 [[Y [],.az,I J 0]]);have ab:=ae.bM H (.row U 3 [[Y [],.az,I J 0]]);simp-implicitDefEqProofs(disch:=try exact aj)only[uw,bg,bx,List.length_cons,List.length_nil,Nat.zero_add,Nat.reduceAdd];refine aO (h3 (h.rd.aL d) (h.aL d).bL) ?_;rintro _ H1 ⟨rfl,c⟩;refine⟨c.1,?_⟩;have aB:=c.1;simp only[ae.b8]at aB;have Q:=(h.aL d).aL c;have ag:=c.get ab;generalize al T s.at_=q;obtain⟨k,x,z,p⟩:=q;have u:=aP.push H1 (.row U 3 [[Y [],.az,I J p]])
 have an:=ae.bM H1 (.row U 3 [[Y [],.az,I J p]]);simp-implicitDefEqProofs(disch:=try exact aj)only[bg,bx,eg,aq,cL,aY,cL,Nat.reduceAdd,Nat.reduceLeDiff,reduceIte,ad.cells,cQ,dN,dO,ae.h1,Tok.v];refine aO (nh (Q.aL u)) ?_;rintro _ w ⟨rfl,m3,i⟩;refine⟨m3.1,?_⟩;have aC:=m3.1;simp only[ae.b8]at aC;have ah:=m3.get (u.get ag) af;have E:=m3.get an af;have dH:=ae.aV E;generalize bq T s=o at i j ⊢;obtain⟨cq,e1⟩:=o;simp only at i j ⊢;have ay:=((((d.mut (· =r)).trans (c.mut _)).trans (u.mut _)).trans m3);have L:=ay.cW (l:=H1.next) (.inr af) (.row U 3 [[Y cq,.az,I J p]]);have R:=h.mut L (show bJ _ r au e1 by unfold bJ;rw[ae.get_set_other af];exact i.rd)
 have ai:(w.set H1.next (.row U 3 [[Y cq,.az,I J p]])).get H.next=D (.row U 3 [[Y [],.az,I J 0]]):=by rw[ae.get_set_other af];exact ah
 have ao:(w.set H1.next (.row U 3 [[Y cq,.az,I J p]])).get H1.next=D (.row U 3 [[Y cq,.az,I J p]]):=ae.get_set_same dH
 simp-implicitDefEqProofs(disch:=try exact aj)only[bg,bx,eg,aq,cL,aY,cL,Nat.reduceAdd,Nat.reduceLeDiff,reduceIte,ad.cells,cQ,dN,dO,E];refine aO (gN R [123] (by simp)) ?_;rintro _ e ⟨rfl,m5,S⟩;refine⟨m5.1,?_⟩;have aF:=m5.1;simp only[ae.dz]at aF;have ak:=m5.get ai af;have ap:=m5.get ao af;have gb:fY H e r H.next H1.next e.next 3 T au [Y [],.az,I J 0] (Y cq) [I J p] [] .az (a_ T [123] e1):=⟨S,ak,ap,.nil,ca.tJ (L.trans m5),aw,bm _,af,af,bm _⟩
 refine E1 h (s':=O) (l':=l') (λaG v A=> ?_) n (n+1) e _ [] .az (Nat.lt_succ_self _) (by simpa using ax) gb j;unfold me;refine aO (gN A.cP [125] (by simp)) ?_;rintro _ y ⟨rfl,m7,k8⟩;refine⟨m7.1,?_⟩;have a:=A.mut m7 k8;have B:=a.two;have ar:=a.cell;have N:=a.gR.one;have aH:=ae.aV B;have av:=iI N;simp only[ad.cells]at av;have M:iE r H.next H (y.set H.next (.row U 3 [[Y cq,v,I J p]])):=a.m.cW (.inr (bm _)) _
 have aa:=h.ov M (s':=a_ T [125] O) (by unfold bJ;rw[ae.get_set_other af];exact a.cP.rd);have am:c_ e5 (bn H.next) (y.set H.next (.row U 3 [[Y cq,v,I J p]])) l' v:=a.gR.aW λk x K g=>⟨by unfold bn at K ⊢;omega,by have:=a.dF;unfold bn at K;rw[ae.get_set_other af];exact g⟩
 simp-implicitDefEqProofs(disch:=try exact aj)only[bg,bx,eg,aq,cL,aY,cL,Nat.reduceAdd,Nat.reduceLeDiff,reduceIte,ad.cells,cQ,dN,dO,B,ar,N];exact bb.2 ⟨⟨_,rfl,v,rfl,am.aD⟩,M.mt,aa⟩
end
section
set_option maxRecDepth 100000
noncomputable section
def o7(G:ay)(N:Nat)(ag c:ad)(H:ae):O:=aI H (G 79 [ag,Y [125]] H) λd a=>D (c,a)
def Oz(G:ay)(N:Nat):∀aa H,bl P G N (o (o (o (o (bs Tryd.f56))))) (bf Tryd.f56) [] (bf Tryd.f56) aa H=o7 G N (aa 0) (aa 3) H:=by
 refine bC (aF _) λaa H=> ?_
 delta o7;kernel_rfl
def uP(G:ay)(N:Nat)(k:ad->ad->ae->O)(ag i:ad)(H:ae):O:=aI H (G 21 [ag] H) λa l=>aX a X l (cI ag) λw c=>aX a X c (λq=>fj c (G 23 [w,Y [125]] c) q) λo m=>aX a X m (bU (fZ .not o)) λp d=>j (dd a (D p) (D (C U))) λs=>aU (D s) (aI d (G 78 [ag] d) λu e=>b1 e (b6 P (e).next 71 1 [(0,u)]) λbS h=>aI h (c0 P h [71,71] i bS) λv n=>k ag v n) (o7 G N ag i d)
def o8(G:ay)(N:Nat):Nat->ad->ad->ae->O
 |0,_,_,_=>Z
 |n+1,ag,a,H=>uP G N (o8 G N n) ag a H
def Oy(G:ay)(N:Nat)(c:ad->ad->ae->O):∀aa H,bl P G N (aN (aN (aN (o (o (o (bs Tryd.f56))))))) (λaa H=>c (aa 0) (aa 3) H) [(0,(λaa H=>o7 G N (aa 0) (aa 3) H))] (bf Tryd.f56) aa H=uP G N c (aa 0) (aa 3) H:=by
 refine bC (aF _) λaa H=> ?_
 delta uP;generalize o7 G N=a;revert a;refine id ?_;intro a;kernel_rfl
def uO(G:ay)(N:Nat)(ag:ad)(H:ae):O:=aI H (G 77 [ag,Y [123]] H) λc a=>o8 G N N ag ad.az a
def MB(N:Nat){ag:ad}{H:ae}{r:ad×ae}(h:uO (aE P aA) N ag H=D r):aE P aA 56 [ag] H=D r:=cS N (S:=λG=>uO G N ag H) Tryd.func56 (λG=>dX ((aM ah ((aM ah ((aM ah ((aM ah (Oz G N) ((cX ah ((dW (k:=λm aa H=>o8 G N m (aa 0) (aa 3) H) ah (λaa H=>ah) (λm=>Oy G N (o8 G N m)))))))) (aF _))) (aF _))) (aF _))) (by delta uO;generalize o8 G N N=a;revert a;refine id ?_;intro a;kernel_rfl)) h
def gM(G:ay)(c e:ad)(H:ae):O:=j (aq P H 112 e) λd=>bd H (aY P H 112 c d) λa=>j (aq P a 112 c) λr=>D (r,a)
def OR(G:ay)(N:Nat):∀aa H,bl P G N (o (o (o (o (bs Tryd.f78))))) (bf Tryd.f78) [] (bf Tryd.f78) aa H=gM G (aa 2) (aa 4) H:=by
 refine bC (aF _) λaa H=> ?_
 delta gM;kernel_rfl
def pd(G:ay)(ag c d:ad)(H:ae):O:=aI H (G 27 [ag,Y [59]] H) λe a=>gM G c d a
def OT(G:ay)(N:Nat):∀aa H,bl P G N (o (o (o (o (o (o (aN (o (aN (aN (o (o (o (bs Tryd.f78)))))))))))))) (λaa H=>gM G (aa 2) (aa 4) H) [(0,(λaa H=>gM G (aa 2) (aa 4) H))] (bf Tryd.f78) aa H=pd G (aa 0) (aa 2) (aa 4) H:=by
 refine bC (aF _) λaa H=> ?_
 delta pd;generalize gM G=a;revert a;refine id ?_;intro a;kernel_rfl
def pe(G:ay)(ag c d:ad)(H:ae):O:=aI H (G 27 [ag,Y [59]] H) λe a=>gM G c d a
def OU(G:ay)(N:Nat):∀aa H,bl P G N (o (o (o (aN (o (o (o (o (o (o (o (aN (aN (o (o (o (bs Tryd.f78))))))))))))))))) (λaa H=>gM G (aa 2) (aa 4) H) [(0,(λaa H=>gM G (aa 2) (aa 4) H))] (bf Tryd.f78) aa H=pe G (aa 0) (aa 2) (aa 4) H:=by
 refine bC (aF _) λaa H=> ?_
 delta pe;generalize gM G=a;revert a;refine id ?_;intro a;kernel_rfl
def mv(G:ay)(ag n:ad)(av a ah:ad)(H:ae):O:=aU (D ah) (j (b7 ag) λai=>j (aH P 59 ai 1) λaj=>j (aq P H 3 aj) λak=>j (ao P .add 3 X ak (I J 1)) λal=>j (b7 ag) λam=>j (aH P 59 am 1) λan=>bd H (aY P H 3 an al) λo=>j (aH P 112 a 0) λap=>bd o (aY P o 3 ap (I J 1)) λm=>aI m (G 55 [ag] m) λar i=>j (aH P 112 a 1) λau=>bd i (aY P i 9 au ar) λc=>aI c (G 27 [ag,Y [58]] c) λbp e=>aI e (G 53 [ag] e) λaw d=>j (aH P 112 a 2) λax=>bd d (aY P d 40 ax aw) λh=>j (aH P 61 av 1) λaA=>j (aq P h 9 aA) λaB=>j (ao P .eql 9 X aB (Y [108,101,116])) λaC=>aU (D aC) (j (aH P 112 a 0) λaE=>bd h (aY P h 3 aE (I J 2)) λk=>aI k (G 27 [ag,Y [61]] k) λbq l=>aI l (G 40 [ag,I J 0] l) λaF p=>b1 p (b6 P (p).next 41 1 [(0,aF)]) λaG q=>j (aH P 112 a 3) λaJ=>bd q (aY P q 41 aJ aG) λs=>pd G ag n a s) (pd G ag n a h)) (aI H (G 23 [ag,Y [105,102]] H) λaK o=>aU (D aK) (j (b7 ag) λaL=>j (aH P 59 aL 1) λaM=>j (aq P o 3 aM) λaN=>j (ao P .add 3 X aN (I J 1)) λaO=>j (b7 ag) λaP=>j (aH P 59 aP 1) λaQ=>bd o (aY P o 3 aQ aO) λm=>j (aH P 112 a 0) λaR=>bd m (aY P m 3 aR (I J 5)) λi=>aI i (G 40 [ag,I J 0] i) λaS c=>b1 c (b6 P (c).next 41 1 [(0,aS)]) λaT e=>j (aH P 112 a 3) λaV=>bd e (aY P e 41 aV aT) λd=>aI d (G 56 [ag] d) λaW h=>j (aH P 112 a 4) λaX=>bd h (aY P h 71 aX aW) λk=>aI k (G 23 [ag,Y [101,108,115,101]] k) λaZ l=>aU (D aZ) (j (b7 ag) λa0=>j (aH P 59 a0 1) λa1=>j (aq P l 3 a1) λa2=>j (ao P .add 3 X a2 (I J 1)) λa3=>j (b7 ag) λa4=>j (aH P 59 a4 1) λa5=>bd l (aY P l 3 a5 a3) λp=>aI p (G 56 [ag] p) λa6 q=>j (aH P 112 a 5) λa7=>bd q (aY P q 71 a7 a6) λs=>gM G n a s) (gM G n a l)) (aI o (G 23 [ag,Y [119,104,105,108,101]] o) λa8 m=>aU (D a8) (j (b7 ag) λa9=>j (aH P 59 a9 1) λa_=>j (aq P m 3 a_) λba=>j (ao P .add 3 X ba (I J 1)) λbb=>j (b7 ag) λbc=>j (aH P 59 bc 1) λbe=>bd m (aY P m 3 be bb) λi=>j (aH P 112 a 0) λbf=>bd i (aY P i 3 bf (I J 6)) λc=>aI c (G 40 [ag,I J 0] c) λbg e=>b1 e (b6 P (e).next 41 1 [(0,bg)]) λbh d=>j (aH P 112 a 3) λbi=>bd d (aY P d 41 bi bh) λh=>aI h (G 56 [ag] h) λbj k=>j (aH P 112 a 4) λbk=>bd k (aY P k 71 bk bj) λl=>gM G n a l) (aI m (G 23 [ag,Y [114,101,116,117,114,110]] m) λbl i=>aU (D bl) (j (b7 ag) λbm=>j (aH P 59 bm 1) λbn=>j (aq P i 3 bn) λu=>j (ao P .add 3 X u (I J 1)) λv=>j (b7 ag) λw=>j (aH P 59 w 1) λx=>bd i (aY P i 3 x v) λc=>j (aH P 112 a 0) λy=>bd c (aY P c 3 y (I J 7)) λe=>aI e (G 23 [ag,Y [59]] e) λz d=>j (fZ .not z) λA=>aU (D A) (aI d (G 40 [ag,I J 0] d) λB h=>b1 h (b6 P (h).next 41 1 [(0,B)]) λF k=>j (aH P 112 a 3) λK=>bd k (aY P k 41 K F) λl=>pe G ag n a l) (pe G ag n a d)) (aI i (G 23 [ag,Y [112,114,105,110,116]] i) λL c=>aU (D L) (j (b7 ag) λM=>j (aH P 59 M 1) λN=>j (aq P c 3 N) λR=>j (ao P .add 3 X R (I J 1)) λS=>j (b7 ag) λT=>j (aH P 59 T 1) λV=>bd c (aY P c 3 V S) λe=>j (aH P 112 a 0) λW=>bd e (aY P e 3 W (I J 8)) λd=>aI d (G 40 [ag,I J 0] d) λaa h=>b1 h (b6 P (h).next 41 1 [(0,aa)]) λab k=>j (aH P 112 a 3) λaf=>bd k (aY P k 41 af ab) λl=>aI l (G 27 [ag,Y [59]] l) λbo p=>gM G n a p) (j (aq P c 112 a) λE=>aI c (G 89 [ag,E] c) λQ e=>bd e (aY P e 112 n Q) λd=>j (aq P d 112 n) λr=>D (r,d))))))
def OS(G:ay)(N:Nat):∀aa H,bl P G N (o (aN (aN (o (o (o (bs Tryd.f78))))))) (λaa H=>gM G (aa 2) (aa 4) H) [(0,(λaa H=>gM G (aa 2) (aa 4) H))] (bf Tryd.f78) aa H=mv G (aa 0) (aa 2) (aa 3) (aa 4) (aa 13) H:=by
 refine bC ((dt ah ((aM ah ((aM ah ((aM ah ((aM ah ((aM ah ((aM ah (OT G N) (aF _))) (aF _))) (aF _))) (aF _))) (aF _))) (aF _))) ((aM ah ((dt ah (aF _) ((aM ah ((dt ah (aF _) ((aM ah ((dt ah ((aM ah ((aM ah ((aM ah (OU G N) (aF _))) (aF _))) (aF _))) (aF _))) (aF _))))) (aF _))))) (aF _))))) λaa H=> ?_
 delta mv;generalize pe G=a;generalize gM G=c;generalize pd G=d;revert a c d;refine id ?_;intro a c d;kernel_rfl
def ss(G:ay)(ag:ad)(H:ae):O:=cT H [I J 0,Y [],Y [],I J 0,ad.az,ad.az,ad.az,I J 0,I J 0] λn e=>aI e (G 22 [ag] e) λba o=>cT o [I J 0,Y [],I J 0,I J 0] λa h=>bd h (aY P h 61 a ba) λi=>j (aH P 61 a 3) λs=>j (aq P i 3 s) λu=>j (cC P 112 [(6,u)]) λv=>cT i [I J 0,Y [],Y [],I J 0,ad.az,ad.az,ad.az,I J 0,I J 0] λd k=>bd k (aY P k 112 d v) λl=>aI l (G 23 [ag,Y [118,97,114]] l) λm c=>aU (D m) (mv G ag n a d m c) (aI c (G 23 [ag,Y [108,101,116]] c) λq p=>mv G ag n a d q p)
def MQ(N:Nat){ag:ad}{H:ae}{r:ad×ae}(h:ss (aE P aA) ag H=D r):aE P aA 78 [ag] H=D r:=cS N (S:=λG=>ss G ag H) Tryd.func78 (λG=>dX ((aM ah ((aM ah ((aM ah ((aM ah (OR G N) ((cX ah ((aM ah (OS G N) (aF _))))))) (aF _))) (aF _))) (aF _))) (by delta ss;generalize mv G=a;revert a;refine id ?_;intro a;kernel_rfl)) h
def nM(G:ay)(ag c:ad)(k l:ad)(H:ae):O:=aI H (G 27 [ag,Y [61]] H) λT m=>aI m (G 40 [ag,I J 0] m) λs q=>cT q [I J 0,I J 0,Y [],Y [],I J 0,ad.az,I J 0,I J 0,I J 0,I J 0,I J 0] λba o=>bd o (aY P o 45 ba s) λp=>aI p (G 27 [ag,Y [59]] p) λV i=>j (aH P 45 l 0) λu=>j (aq P i 3 u) λv=>j (ao P .eql 3 X v (I J 4)) λw=>aU (D w) (j (aH P 112 c 0) λx=>bd i (aY P i 3 x (I J 3)) λa=>j (aH P 45 l 2) λy=>j (aq P a 9 y) λz=>j (aH P 112 c 1) λA=>bd a (aY P a 9 A z) λd=>j (aq P d 45 ba) λB=>b1 d (b6 P (d).next 41 1 [(0,B)]) λE e=>j (aH P 112 c 3) λF=>bd e (aY P e 41 F E) λh=>j (aq P h 112 c) λK=>bd h (aY P h 112 k K) λn=>j (aq P n 112 k) λr=>D (r,n)) (j (aH P 112 c 0) λL=>bd i (aY P i 3 L (I J 4)) λa=>j (aq P a 45 l) λM=>j (aq P a 45 ba) λN=>b1 a (b6 P (a).next 41 2 [(0,M),(1,N)]) λQ d=>j (aH P 112 c 3) λR=>bd d (aY P d 41 R Q) λe=>j (aq P e 112 c) λS=>bd e (aY P e 112 k S) λh=>j (aq P h 112 k) λr=>D (r,h))
def O1(G:ay)(N:Nat):∀aa H,bl P G N (o (o (o (o (bs Tryd.f89))))) (bf Tryd.f89) [] (bf Tryd.f89) aa H=nM G (aa 0) (aa 3) (aa 4) (aa 5) H:=by
 refine bC (aF _) λaa H=> ?_
 delta nM;kernel_rfl
def qK(G:ay)(ag k:ad)(l a:ad)(H:ae):O:=j (aH P 45 a 0) λq=>j (aq P H 3 q) λs=>j (ao P .neq 3 X s (I J 4)) λc=>aX c X H (bU (aH P 45 a 0)) λu h=>aX c X h (qr (aq P h 3 u)) λv m=>aX c X m (bU (ao P .neq 3 X v (I J 5))) λw n=>j (dd c (D w) (D (C U))) λd=>aX d X n (bU (aH P 45 a 0)) λx i=>aX d X i (qr (aq P i 3 x)) λy o=>aX d X o (bU (ao P .neq 3 X y (I J 6))) λz e=>j (dd d (D z) (D (C U))) λA=>aU (D A) (aI e (G 24 [ag,I J 2] e) λB p=>nM G ag k l a p) (nM G ag k l a e)
def O0(G:ay)(N:Nat):∀aa H,bl P G N (o (o (o (bs Tryd.f89)))) (bf Tryd.f89) [] (bf Tryd.f89) aa H=qK G (aa 0) (aa 3) (aa 4) (aa 5) H:=by
 refine bC ((aM ah (O1 G N) (aF _))) λaa H=> ?_
 delta qK;generalize nM G=a;revert a;refine id ?_;intro a;kernel_rfl
def nN(G:ay)(ag h d:ad)(H:ae):O:=aI H (G 27 [ag,Y [59]] H) λi a=>j (aq P a 112 h) λe=>bd a (aY P a 112 d e) λc=>j (aq P c 112 d) λr=>D (r,c)
def O2(G:ay)(N:Nat):∀aa H,bl P G N (o (o (o (aN (o (aN (o (o (bs Tryd.f89))))))))) (λaa H=>qK G (aa 0) (aa 3) (aa 4) (aa 5) H) [] (bf Tryd.f89) aa H=nN G (aa 0) (aa 3) (aa 4) H:=by
 refine bC (aF _) λaa H=> ?_
 delta nN;kernel_rfl
def jZ(G:ay)(ag ar:ad)(H:ae):O:=b1 H (d_ (H).next ar) λa s=>cT s [I J 0,Y [],Y [],I J 0,ad.az,ad.az,ad.az,I J 0,I J 0] λk m=>aI m (G 40 [ag,I J 0] m) λQ x=>cT x [I J 0,I J 0,Y [],Y [],I J 0,ad.az,I J 0,I J 0,I J 0,I J 0,I J 0] λd n=>bd n (aY P n 45 d Q) λo=>aI o (G 23 [ag,Y [61]] o) λy h=>j (fZ .not y) λz=>aU (D z) (j (aH P 112 a 0) λA=>bd h (aY P h 3 A (I J 9)) λi=>j (aq P i 45 d) λB=>b1 i (b6 P (i).next 41 1 [(0,B)]) λE p=>j (aH P 112 a 3) λF=>bd p (aY P p 41 F E) λq=>aI q (G 23 [ag,Y [59]] q) λc u=>aX c X u (bU (aH P 45 d 0)) λK l=>aX c X l (qr (aq P l 3 K)) λL v=>aX c X v (bU (ao P .neq 3 X L (I J 7))) λM e=>j (dd c (D M) (D (C U))) λN=>aU (D N) (aI e (G 24 [ag,I J 2] e) λR w=>nN G ag a k w) (nN G ag a k e)) (qK G ag a k d h)
def MV(N:Nat){ag ar:ad}{H:ae}{r:ad×ae}(h:jZ (aE P aA) ag ar H=D r):aE P aA 89 [ag,ar] H=D r:=cS N (S:=λG=>jZ G ag ar H) Tryd.func89 (λG=>dX ((aM ah ((aM ah ((aM ah (O0 G N) ((aM ah ((dt ah ((aM ah ((aM ah ((aM ah (O2 G N) (aF _))) (aF _))) (aF _))) (aF _))) (aF _))))) (aF _))) (aF _))) (by delta jZ;generalize qK G=a;generalize nN G=c;revert a c;refine id ?_;intro a c;kernel_rfl)) h
end
end
def qh{H:ae}{r:Nat}{T:List Tok}{au:ad}{s:an}(aw:T.length<=20000000)(c:bQ H r T au s):W (aE P aA 40 [.ptr r 0 0,I J 0] H) (dS H r T au (bG T s).1 (bG T s).2):=by
 obtain⟨p,q,-,a,-,-⟩:=xS (T:=T) af T.length s (tt _ _) 0 800000000 800000000 af af af;have:bG T s=q:=by simp only[bG,a]
 rw[this];exact(y3 800000000 af 800000000 (bm _)).expr c 0 af q.1 q.2 a
def L1{H0 H:ae}{r:Nat}{T:List Tok}{au:ad}{s0 s:an}(c:bQ H0 r T au s0)(j:ca r H0 H)(l:bJ H r au s){a:b2}{es:List aJ}{b9:ad}(i:ck H (bn (H0.next+2)) es b9)(g3:H.get H0.next=D (.row U 9 [a.cells b9 .az .az]))(g4:H.get (H0.next+1)=D (.row U 9 [[I J 0,Y [],Y [],I J 0,.az,.az,.az,I J 0,I J 0]])):
  W (nN (aE P aA) (.ptr r 0 0) (.ptr H0.next 0 0) (.ptr (H0.next+1) 0 0) H) (fx H0 r T au (.mk a es [] []) (a_ T [59] s)):=by
 have n:=c.rd.lt;have lX:=ae.aV g4;have k:=i.eb;rw[nN];refine aO (gN (c.mut j l) [59] (by simp)) ?_;rintro _ H1 ⟨rfl,m1,m⟩;refine⟨m1.1,?_⟩;have d:=m1.get g3 af;have e:=m1.get g4 af;have ff:=ae.aV e;simp only[b2.cells]at d;simp-implicitDefEqProofs(disch:=try exact aj)only[jZ,reduceAdd,reduceLeDiff,reduceIte,ax,fa,d,e,k];exact bb.2 (fx.fin (a:=a) c (j.trans m1) m.rd (i.aW (dp.mut m1 (by unfold bn;omega) λ_ h=>h)) (da.nil _ _) (da.nil _ _) af (lo:=H0.next+2) af _)
def fx.two{H c bP:ae}{r:Nat}{T:List Tok}{au:ad}{s s':an}{a:b2}{es:List aJ}{b9:ad}(i:bQ H r T au s)(j:ca r H c)(d:bJ c r au s')(u:c.next<=bP.next)(e:∀l,l<c.next->l≠H.next->l≠H.next+1->bP.get l=c.get l)
  (o:dp c (bn (H.next+2)) bP (bn H.next)->ck bP (bn H.next) es b9):fx H r T au (.mk a es [] []) s' (.agg (a.cells b9 .az .az)) bP:=by
 have q:=i.rd.lt;have p:=j.1;have m:ca r H bP:=⟨af,λl k n=>by rw[e l af af af];exact j.2 l k n⟩;refine⟨m,i.mut m ?_,lK.2 ⟨b9,.az,.az,rfl,o λl ro els h g=>⟨by unfold bn at*;omega,?_⟩,da.nil _ _,da.nil _ _⟩⟩
 ·have:=d.lt;unfold bJ at d ⊢;rw[e r af af af];exact d
 ·have:=ae.aV g;unfold bn at h;rw[e l af af af];exact g
def L4{H0 H:ae}{r:Nat}{T:List Tok}{au:ad}{s0 s:an}(aw:T.length<=20000000)(d:bQ H0 r T au s0)(B:ca r H0 H)(N:bJ H r au s){pos:Int}{a:bK}{ks:List aJ}{kv:ad}{b:Nat}(he:cJ H (λl=>H0.next+2<=l/\l<b) (.mk a ks) (.agg (a.cells kv)))(ab:H0.next+2<=b)
  (g3:H.get H0.next=D (.row U 9 [b2.cells {kind:=0,pos:=pos} .az .az .az])) (g4:H.get (H0.next+1)=D (.row U 9 [[I J 0,Y [],Y [],I J 0,.az,.az,.az,I J 0,I J 0]])) (g5:H.get b=D (.row U 11 [a.cells kv])):
  W (nM (aE P aA) (.ptr r 0 0) (.ptr H0.next 0 0) (.ptr (H0.next+1) 0 0) (.ptr b 0 0) H) (fx H0 r T au (br.at pos (bif a.kind==4 then .mk {kind:=3,name:=a.name} [(bG T (a_ T [61] s)).1] [] []else .mk {kind:=4} [.mk a ks,(bG T (a_ T [61] s)).1] [] [])) (a_ T [59] (bG T (a_ T [61] s)).2)):=by
 have ag:=d.rd.lt;have ah:=ae.aV g5;rw[nM];refine aO (gN (d.mut B N) [61] (by simp)) ?_;rintro _ H1 ⟨rfl,m1,m⟩;refine⟨m1.1,?_⟩;have al:=m1.1;generalize a_ T [61] s=s1 at m ⊢;simp-implicitDefEqProofs(disch:=try exact aj)only[jZ,reduceAdd,reduceLeDiff,reduceIte,ax,fa];refine aO (qh aw m) ?_;rintro v q ⟨m2,n,j⟩;refine⟨m2.1,?_⟩;have n2:=m2.1;obtain⟨cs,rfl,i,bz⟩:=j.cells;generalize bG T s1=aa at n j ⊢;simp-implicitDefEqProofs(disch:=try exact aj)only[jZ,reduceAdd,reduceLeDiff,reduceIte,ax,fa,i,bz,List.append_nil];have c:=aP.push q (.row U 11 [cs]);refine aO (gN (n.aL c) [59] (by simp)) ?_;rintro _ F ⟨rfl,m4,y⟩
 refine⟨m4.1,?_⟩;have Q:=m4.1;simp only[ae.b8]at Q;have gb:=n.rd.lt;have e:=m4.get (c.get (m2.get (m1.get g3 af) af)) af;have o:=m4.get (c.get (m2.get (m1.get g4 af) af)) af;have p:=m4.get (c.get (m2.get (m1.get g5 af) af)) af;have z:=m4.get (ae.bM q (.row U 11 [cs])) af;have ai:=ae.aV e;have ak:=ae.aV o;have m24:=(c.mut (· =r)).trans m4;have E:=(((B.trans m1).trans m2).trans m24);have t1:List.take 11 cs=cs:=List.take_of_length_le af;have x:=j.mut (ok':=bn (H0.next+2)) m24 (by unfold bn;have:=m.rd.lt;omega) λl h=>by unfold bn at*;omega
 have G:cJ F (bn (H0.next+2)) (.mk a ks) (.agg (a.cells kv)):=he.mut ((m1.trans m2).trans m24) af λl h=>by unfold bn;omega
 obtain⟨O,M,L⟩:=hQ.1 he;have w:=L.eb;have K:O=kv:=by
  have:=congrArg (λv=>match v with|ad.agg cs=>cs[5]? |_=>Z) M;simpa [bK.cells]using this.symm
 rw[K]at w;have R:(a.cells kv).all ad.one=true:=by simp only[bK.cells,List.all_cons,List.all_nil,hF,h0,w,Bool.and_self]
 simp only[b2.cells]at e;cases u:a.kind==4 with
 |true=>
  have aB:∀l,b6 P l 41 1 [(0,.agg cs)]=D (.aD l 0 1 11 (D 1),.row U 11 [cs]):=λl=>j1 l cs i bz
  simp only[bK.cells]at p;simp-implicitDefEqProofs(disch:=try exact aj)only[jZ,reduceAdd,reduceLeDiff,reduceIte,ax,fa,e,o,p,z,u,t1,aB,ae.h1];refine bb.2 (fx.two (a:={kind:=3,name:=a.name,pos:=pos}) d E y.rd ?_ ?_ λk=>ck.oH (ro:=false) ?_ (by unfold bn;omega) (cJ.aW k _ _ x))
  ·simp only[ae.b8,ae.dz];omega
  ·intro l aT S V;simp-implicitDefEqProofs(disch:=try exact aj)only[dO]
  ·simp-implicitDefEqProofs(disch:=try exact aj)only[dO]
 |false=>
  have aB:∀l,b6 P l 41 2 [(0,.agg (a.cells kv)),(1,.agg cs)]=D (.aD l 0 2 11 (D 2),.row U 11 [a.cells kv,cs]):=λl=>x6 l (a.cells kv) cs rfl R i bz
  have A:=p;simp only[bK.cells]at A aB;simp-implicitDefEqProofs(disch:=try exact aj)only[jZ,reduceAdd,reduceLeDiff,reduceIte,ax,fa,e,o,A,z,u,t1,aB,ae.h1];refine bb.2 (fx.two (a:={kind:=4,pos:=pos}) d E y.rd ?_ ?_ λk=>ck.yq (ro:=false) ?_ (by unfold bn;omega) (cJ.aW k _ _ G) (cJ.aW k _ _ x))
  ·simp only[ae.b8,ae.dz];omega
  ·intro l aT S V;simp-implicitDefEqProofs(disch:=try exact aj)only[dO]
  ·simp-implicitDefEqProofs(disch:=try exact aj)only[dO,bK.cells]
def L2{H:ae}{r:Nat}{T:List Tok}{au:ad}{s:an}(aw:T.length<=20000000)(x:bQ H r T au s)(pos:Int):W (aE P aA 89 [.ptr r 0 0,.agg (b2.cells {kind:=0,pos:=pos} .az .az .az)] H) (fx H r T au ((jv T s).1.at pos) (jv T s).2):=by
 refine cG (λ_=>MV 0) ?_;have av:=x.rd.lt;have ak:∀l,d_ l (.agg (b2.cells {kind:=0,pos:=pos} .az .az .az))=D (.ptr l 0 0,.row U 9 [b2.cells {kind:=0,pos:=pos} .az .az .az]):=λl=>hA l _ rfl
 have ai:=(aP.push H (.row U 9 [b2.cells {kind:=0,pos:=pos} .az .az .az])).bI (.row U 9 [[I J 0,Y [],Y [],I J 0,.az,.az,.az,I J 0,I J 0]]);simp-implicitDefEqProofs(disch:=try exact aj)only[jZ,reduceAdd,reduceLeDiff,reduceIte,ax,fa,ak];refine aO (qh aw (x.aL ai)) ?_;rintro v k ⟨m2,E,he⟩;refine⟨m2.1,?_⟩;have n2:=m2.1;simp only[ae.b8]at n2;unfold jv;obtain⟨cs,rfl,ag,bz⟩:=he.cells;have t1:List.take 11 cs=cs:=List.take_of_length_le af;have g3:k.get H.next=D (.row U 9 [b2.cells {kind:=0,pos:=pos} .az .az .az]):=m2.get (by simp-implicitDefEqProofs(disch:=try exact aj)only[dO]) af
 have g4:=m2.get (ae.bM (H.push (.row U 9 [b2.cells {kind:=0,pos:=pos} .az .az .az])) (.row U 9 [[I J 0,Y [],Y [],I J 0,.az,.az,.az,I J 0,I J 0]])) (by simp only[ae.b8];omega);simp only[ae.b8]at g4;generalize bG T s=d at E he ⊢;simp-implicitDefEqProofs(disch:=try exact aj)only[jZ,reduceAdd,reduceLeDiff,reduceIte,ax,fa,ag,bz,List.append_nil];have aa:=aP.push k (.row U 11 [cs]);refine aO (dA (E.rd.aL aa) (E.bL.aL aa) [61] (by simp)) ?_;rintro _ c ⟨rfl,L⟩;refine⟨L.1,?_⟩;have am:=L.1;simp only[ae.b8]at am;have y:=aa.trans L;have G:=y.get g3;have K:=y.get g4
 have q:=L.get (ae.bM k (.row U 11 [cs]));have ay:=ae.aV G;have aC:=ae.aV q;have n:cJ c (λl=>H.next+2<=l/\l<k.next) d.1 (.agg cs):=cJ.aW (dp.aL y λl h=>by simpa only[bn,ae.b8]using h) _ _ he.below;have V:=((ai.mut (· =r)).trans m2).trans (y.mut _);have Q:=E.aL y;cases ar:aZ T d.2 [61]with
 |true=>
  simp-implicitDefEqProofs(disch:=try exact aj)only[jZ,reduceAdd,reduceLeDiff,reduceIte,ax,fa,Bool.not_true];unfold uZ;have fin:∀(i:ae) (a:bK) (ks:List aJ) (kv:ad),cJ i (λl=>H.next+2<=l/\l<k.next) (.mk a ks) (.agg (a.cells kv))->ca r H i->bJ i r au (bif hB (.mk a ks)then bE T 2 d.2 else d.2)->i.get H.next=D (.row U 9 [b2.cells {kind:=0,pos:=pos} .az .az .az])->i.get (H.next+1)=D (.row U 9 [[I J 0,Y [],Y [],I J 0,.az,.az,.az,I J 0,I J 0]])->i.get k.next=D (.row U 11 [a.cells kv])->
    W (nM (aE P aA) (.ptr r 0 0) (.ptr H.next 0 0) (.ptr (H.next+1) 0 0) (.ptr k.next 0 0) i) (fx H r T au (br.at pos (bif (aJ.mk a ks).kind==4 then .mk {kind:=3,name:=(aJ.mk a ks).name} [(bG T (hR T (.mk a ks) d.2)).1] [] []else .mk {kind:=4} [.mk a ks,(bG T (hR T (.mk a ks) d.2)).1] [] [])) (a_ T [59] (bG T (hR T (.mk a ks) d.2)).2)):=
   λi a ks kv h m5 d5 z j e=>L4 aw x m5 d5 h af z j e
  rcases O:d.1 with⟨a,ks⟩;rw[O]at n;obtain⟨kv,w,-⟩:=hQ.1 n;simp only[ad.agg.injEq]at w;subst w;have u:=q;simp only[bK.cells]at u;simp-implicitDefEqProofs(disch:=try exact aj)only[qK,reduceAdd,reduceLeDiff,reduceIte,ax,u];have N:=λ(h:hB (.mk a ks)=U)=>fin c a ks kv n V (by rw[h];exact Q.rd) G K q
  cases j:(a.kind != 4)with
  |false=>
   simp-implicitDefEqProofs(disch:=try exact aj)only[reduceAdd,reduceLeDiff,reduceIte,ax,u];exact N (by simp only[hB,aJ.kind,j,Bool.false_and])
  |true=>
   cases e:(a.kind != 5)with
   |false=>
    simp-implicitDefEqProofs(disch:=try exact aj)only[reduceAdd,reduceLeDiff,reduceIte,ax,u,e];exact N (by simp only[hB,aJ.kind,j,e,Bool.false_and,Bool.and_false])
   |true=>
    cases m:(a.kind != 6)with
    |false=>
     simp-implicitDefEqProofs(disch:=try exact aj)only[reduceAdd,reduceLeDiff,reduceIte,ax,u,e,m];exact N (by simp only[hB,aJ.kind,j,e,m,Bool.and_false])
    |true=>
     simp-implicitDefEqProofs(disch:=try exact aj)only[reduceAdd,reduceLeDiff,reduceIte,ax,u,e,m];refine aO (kr Q 2) ?_;rintro _ i ⟨rfl,m5,F⟩;refine⟨m5.1,?_⟩;exact fin i a ks kv (n.mut m5 af λ_ h=>h) (V.trans m5) (by rw[show hB (.mk a ks)=X by simp only[hB,aJ.kind,j,e,m,Bool.and_self]];exact F.rd) (m5.get G af) (m5.get K af) (m5.get q af)
 |false=>
  have aB:∀l,b6 P l 41 1 [(0,.agg cs)]=D (.aD l 0 1 11 (D 1),.row U 11 [cs]):=λl=>j1 l cs ag bz
  have ah:=G;simp only[b2.cells]at ah;simp-implicitDefEqProofs(disch:=try exact aj)only[jZ,reduceAdd,reduceLeDiff,reduceIte,ax,fa,Bool.not_false,ah,K,q,t1,aB,ae.h1];have A:∀l,l<c.next->l≠H.next->((c.set H.next (.row U 9 [b2.cells {kind:=9,pos:=pos} (.aD c.next 0 1 11 (D 1)) .az .az])).push (.row U 11 [cs])).get l=c.get l:=λl ao ap=>by simp-implicitDefEqProofs(disch:=try exact aj)only[dO]
  have m5:ca r H ((c.set H.next (.row U 9 [b2.cells {kind:=9,pos:=pos} (.aD c.next 0 1 11 (D 1)) .az .az])).push (.row U 11 [cs])):=(V.cW (.inr (bm _)) _).bI _;have d5:bJ ((c.set H.next (.row U 9 [b2.cells {kind:=9,pos:=pos} (.aD c.next 0 1 11 (D 1)) .az .az])).push (.row U 11 [cs])) r au d.2:=by
   have h:=Q.rd;have:=h.lt;unfold bJ at h ⊢;rw[A r af af];exact h
  have S:ck ((c.set H.next (.row U 9 [b2.cells {kind:=9,pos:=pos} (.aD c.next 0 1 11 (D 1)) .az .az])).push (.row U 11 [cs])) (bn (H.next+2)) [d.1] (.aD c.next 0 1 11 (D 1)):=
   ck.oH (ro:=false) (by simp-implicitDefEqProofs(disch:=try exact aj)only[dO]) (by unfold bn;omega) (cJ.aW (λl ro els h g=>⟨by unfold bn;omega,by rw[A l af af];exact g⟩) _ _ n)
  have z:((c.set H.next (.row U 9 [b2.cells {kind:=9,pos:=pos} (.aD c.next 0 1 11 (D 1)) .az .az])).push (.row U 11 [cs])).get H.next=D (.row U 9 [b2.cells {kind:=9,pos:=pos} (.aD c.next 0 1 11 (D 1)) .az .az]):=by simp-implicitDefEqProofs(disch:=try exact aj)only[dO]
  have j:=(A (H.next+1) af af).trans K;have e:=(A k.next af af).trans q;simp only[b2.cells]at m5 d5 S z j e;generalize (c.set H.next (.row U 9 [[ad.int J 9,Y [],Y [],I J 0,.aD c.next 0 1 11 (D 1),.az,.az,I J pos,I J 0]])).push (.row U 11 [cs])=i at m5 d5 S z j e ⊢;have F:=x.mut m5 d5;refine aO (dA d5 F.bL [59] (by simp)) ?_;rintro _ M ⟨rfl,o⟩;refine⟨o.1,?_⟩;have fin:∀(p:ae) (ab:an),ca r M p->bJ p r au ab->W (nN (aE P aA) (.ptr r 0 0) (.ptr H.next 0 0) (.ptr (H.next+1) 0 0) p) (fx H r T au (.mk {kind:=9,pos:=pos} [d.1] [] []) (a_ T [59] ab)):=λp ab m7 d7=>
   L1 x ((m5.trans (o.mut _)).trans m7) d7 (S.aW (dp.mut ((o.mut _).trans m7) (by unfold bn;omega) λ_ h=>h)) (m7.get (o.get z) af) (m7.get (o.get j) af)
  have R:=F.aL o;cases aq:aZ T d.2 [59]with
  |false=>
   simp-implicitDefEqProofs(disch:=try exact aj)only[reduceAdd,reduceLeDiff,reduceIte,ax];simp only[Bool.false_and,aK];exact fin M _ (c7.refl _ _) R.rd
  |true=>
   have m:=o.get e;rcases O:d.1 with⟨a,ks⟩;rw[O]at n fin;obtain⟨kv,w,-⟩:=hQ.1 n;simp only[ad.agg.injEq]at w;subst w;simp only[bK.cells]at m;cases B:(a.kind != 7)with
   |false=>
    simp-implicitDefEqProofs(disch:=try exact aj)only[reduceAdd,reduceLeDiff,reduceIte,ax,m,B];simp only[aJ.kind,B,Bool.and_false,aK];exact fin M _ (c7.refl _ _) R.rd
   |true=>
    simp-implicitDefEqProofs(disch:=try exact aj)only[reduceAdd,reduceLeDiff,reduceIte,ax,m,B];simp only[aJ.kind,B,Bool.and_self,aR];refine aO (kr R 2) ?_;rintro _ p ⟨rfl,m7,al⟩;refine⟨m7.1,?_⟩;exact fin p _ m7 al.rd
def sV(n:Nat):Prop:=∀{H:ae} {r:Nat} {T:List Tok} {au:ad} {s:an},T.length<=20000000->bQ H r T au s->∀(e:br) (s':an),nQ T n s=D (e,s')->W (aE P aA 78 [.ptr r 0 0] H) (fx H r T au e s')
def sN(n:Nat):Prop:=∀{H:ae} {r:Nat} {T:List Tok} {au:ad} {s:an},T.length<=20000000->bQ H r T au s->∀(l:List br) (s':an),gC T n s=D (l,s')->W (aE P aA 56 [.ptr r 0 0] H) λv H'=>ca r H H'/\bQ H' r T au s'/\da H' (bn H.next) l v
def EL{M:Nat}{H0 H:ae}{r:Nat}{T:List Tok}{au:ad}{s0 s:an}(a:bQ H0 r T au s0)(c:ca r H0 H)(d:bJ H r au s){l:List br}{v:ad}(e:da H (bn H0.next) l v):
  W (o7 (aE P aA) M (.ptr r 0 0) v H) λj H'=>ca r H0 H'/\bQ H' r T au (dm T [125] s)/\da H' (bn H0.next) l j:=by
 have k:=a.rd.lt;rw[o7];refine aO (qe (a.mut c d) [125] (by simp)) ?_;rintro _ H1 ⟨rfl,m1,i⟩;refine⟨m1.1,?_⟩;exact bb.2 ⟨c.trans m1,i,e.aW (ek.mut m1 (by unfold bn;omega) λ_ h=>h)⟩
def E4{N M:Nat}(F:∀k,k<N->sV k){H0:ae}{r:Nat}{T:List Tok}{au:ad}{s0:an}(aw:T.length<=20000000)(j:bQ H0 r T au s0):
  ∀(n m:Nat),n<=N->n<m->∀(H:ae) (s:an) (l:List br) (v:ad),ca r H0 H->bJ H r au s->l.length+n<=1000000000->lI H0.next H l v->∀(l':List br) (s':an),iN T n l s=D (l',s')->
   W (o8 (aE P aA) M m (.ptr r 0 0) v H) λx H'=>ca r H0 H'/\bQ H' r T au (dm T [125] s')/\da H' (bn H0.next) l' x
 |0,m,z,hm,H,s,l,v,d,i,hlen,o,l',s',h=>by simp[iN]at h
 |n+1,0,z,hm,H,s,l,v,d,i,hlen,o,l',s',h=>af
 |n+1,m+1,z,hm,H,s,l,v,d,i,hlen,o,l',s',h=>by
  have E:=j.rd.lt;have hle:=d.1;have u:=j.mut d i;simp only[iN]at h;simp only[o8];rw[uP];refine aO (k9 i) ?_;rintro _ H1 ⟨rfl,rfl⟩;refine⟨bm _,?_⟩;by_cases A:s.ak=0
  ·have a:(s.ak==0)=true:=by simp[A]
   simp-implicitDefEqProofs(disch:=try exact aj)only[reduceAdd,reduceLeDiff,reduceIte,ax,a];refine kb (dA i u.bL [125] (by simp)) ?_;rintro _ am ⟨rfl,e⟩;refine⟨e.1,?_⟩;have q:=o.mut (e.mut (· =r)) E;cases B:aZ T s [125]with
   |true=>
    simp only[a,B,Bool.not_true,Bool.and_false,aK,aS,b5]at h;obtain⟨rfl,rfl⟩:=h;simp-implicitDefEqProofs(disch:=try exact aj)only[reduceAdd,reduceLeDiff,reduceIte,ax,a,Bool.not_true,Bool.not_false];exact EL j (d.trans (e.mut _)) (u.aL e).rd q.FO
   |false=>
    simp only[a,B,Bool.not_false,Bool.and_self,aR,c1]at h;obtain⟨⟨y,s1⟩,O,Q⟩:=h;simp-implicitDefEqProofs(disch:=try exact aj)only[reduceAdd,reduceLeDiff,reduceIte,ax,a,Bool.not_true,Bool.not_false];refine aO (F n af aw (u.aL e) y s1 O) ?_;rintro w ao ⟨m3,ah,he⟩;refine⟨m3.1,?_⟩;obtain⟨cs,rfl,K,bz⟩:=he.cells;have V:=q.mut m3 E;have aq:=m3.1;have n2:=e.1;obtain⟨x,H',R,S,G,ap⟩:=V.app he af (λL k c p=>by
     rcases q with⟨aT,_⟩|⟨L',els,aT,al,_⟩
     ·rw[aT]at p;cases p
     ·rw[aT]at p;cases p;exact ae.aV al) af af
    have aB:=λl=>Pk l cs K bz
    simp-implicitDefEqProofs(disch:=try exact aj)only[reduceAdd,reduceLeDiff,reduceIte,ax,aB,R,e2];have ai:ca r H0 H':=⟨by have:=d.1;omega,λk aa ab=>by
     rw[G.2 k af af];exact((d.trans (e.mut _)).trans m3).2 k aa ab⟩
    have ag:bJ H' r au s1:=G.get ah.rd af;exact E4 F aw j n m af af H' s1 (l++[y]) x ai ag (by simp only[List.length_append,List.length_cons,List.length_nil];omega) S l' s' Q
  ·have a:(s.ak==0)=false:=by simpa using A
   simp only[a,Bool.false_and,aK,aS,b5]at h;obtain⟨rfl,rfl⟩:=h;simp-implicitDefEqProofs(disch:=try exact aj)only[reduceAdd,reduceLeDiff,reduceIte,ax,a,Bool.not_true];exact EL j d i o.FO
def LC{n:Nat}(e:n<=1000000000)(j:∀k,k<n->sV k):sN (n+1):=by
 intro H r T au s aw c l s' h;refine cG (λ_=>MB (n+1)) ?_;simp only[gC,c1]at h;obtain⟨⟨m,s1⟩,d,a⟩:=h;simp only[aS,b5]at a;obtain⟨rfl,rfl⟩:=a;rw[uO];refine aO (qi c [123] (by simp)) ?_;rintro _ H1 ⟨rfl,m1,i⟩;refine⟨m1.1,?_⟩;exact E4 j aw c n (n+1) (bm _) af H1 _ [] .az m1 i.rd (by simpa using e) (.inl ⟨rfl,rfl⟩) m s1 d
structure fb(H0 H:ae)(r b3 cK:Nat)(au:ad)(t:Tok)(s:an)(c:List ad):Prop where
 m:ca r H0 H
 rd:bJ H r au s
 g2:H.get H0.next=some (.row false 9 [[.int .i64 0,.str [],.str [],.int .i64 0,.az,.az,.az,.int .i64 0,.int .i64 0]])
 g3:H.get b3=some (.row false 4 [[.int .i64 t.kind,.str t.text,.int .i64 t.n,.int .i64 t.pos]])
 g4:H.get cK=some (.row false 9 [c])
 dH:H0.next<b3
 ff:b3<cK
def fb.mut{H0 H H':ae}{r b3 cK:Nat}{au:ad}{t:Tok}{s s':an}{c:List ad}(h:fb H0 H r b3 cK au t s c)(d:r<H0.next)(m:ca r H H')(a:bJ H' r au s'):fb H0 H' r b3 cK au t s' c:=
 ⟨h.m.trans m,a,m.get h.g2 af,m.get h.g3 (by have:=h.dH;omega),m.get h.g4 (by have:=h.dH;have:=h.ff;omega),h.dH,h.ff⟩
def fb.set{H0 H:ae}{r b3 cK:Nat}{au:ad}{t:Tok}{s:an}{c:List ad}(h:fb H0 H r b3 cK au t s c)(e:r<H0.next)(c':List ad):fb H0 (H.set cK (.row U 9 [c'])) r b3 cK au t s c':=by
 have a:=h.dH;have d:=h.ff;refine⟨h.m.cW (.inr af) _,?_,?_,?_,ae.get_set_same (ae.aV h.g4),a,d⟩
 ·have:=h.rd;unfold bJ at this ⊢;rw[ae.get_set_other af];exact this
 ·rw[ae.get_set_other af];exact h.g2
 ·rw[ae.get_set_other af];exact h.g3
def fb.push{H0 H:ae}{r b3 cK:Nat}{au:ad}{t:Tok}{s:an}{c:List ad}(h:fb H0 H r b3 cK au t s c)(d:r<H0.next)(a:bW):fb H0 (H.push a) r b3 cK au t s c:=
 h.mut d ((aP.push H a).mut _) (h.rd.aL (aP.push H a))
section
variable {H0 H:ae}{r b3 cK:Nat}{T:List Tok}{au:ad}{s0 s:an}{t:Tok}
def qj(k:bQ H0 r T au s0){a:b2}{es:List aJ}{c d:List br}{b9 bv e:ad}(b:fb H0 H r b3 cK au t s (a.cells b9 bv e))(h:ck H (bn (cK+1)) es b9)(i:da H (bn (cK+1)) c bv)(j:da H (bn (cK+1)) d e):
  W (gM (aE P aA) (.ptr H0.next 0 0) (.ptr cK 0 0) H) (fx H0 r T au (.mk a es c d) s):=by
 have bz:=h.eb;have bH:=i.eb;have bZ:=j.eb;have g2:=b.g2;have g3:=b.g4;have l:=ae.aV g2;have n:=b.dH;have o:=b.ff;simp only[b2.cells]at g3;simp-implicitDefEqProofs(disch:=try exact aj)only[gM,reduceAdd,reduceLeDiff,reduceIte,ax,fa,g2,g3,bz,bH,bZ];exact bb.2 (fx.fin (a:=a) k b.m b.rd h i j (bm _) af _)
def fb.expr(a:r<H0.next){e:aJ}{cs c c':List ad}{L:Nat}(b:fb H0 H r b3 cK au t s c)(he:cJ H (bn (cK+1)) e (.agg cs))(d:L=H.next):fb H0 ((H.set cK (.row U 9 [c'])).push (.row U 11 [cs])) r b3 cK au t s c'/\ck ((H.set cK (.row U 9 [c'])).push (.row U 11 [cs])) (bn (cK+1)) [e] (.aD L 0 1 11 (D 1)):=by
 subst d;have i:=ae.aV b.g4;refine⟨(b.set a c').push a _,ck.oH (ro:=false) ?_ (by unfold bn;omega) (cJ.aW ?_ e _ he)⟩
 ·exact ae.bM (H.set cK (.row U 9 [c'])) _
 ·intro l ro els h g;refine⟨h,?_⟩;unfold bn at h;exact(aP.push _ _).get (by rw[ae.get_set_other af];exact g)
def ES(c:bQ H0 r T au s0){a:b2}{es:List aJ}{b9:ad}(b:fb H0 H r b3 cK au t s (a.cells b9 .az .az))(d:ck H (bn (cK+1)) es b9):
  W (pd (aE P aA) (.ptr r 0 0) (.ptr H0.next 0 0) (.ptr cK 0 0) H) (fx H0 r T au (.mk a es [] []) (a_ T [59] s)):=by
 have e:=c.rd.lt;have j:=b.dH;have k:=b.ff;rw[pd];refine aO (gN (c.mut b.m b.rd) [59] (by simp)) ?_;rintro _ H1 ⟨rfl,m1,i⟩;refine⟨m1.1,?_⟩;exact qj c (b.mut e m1 i.rd) (d.aW (dp.mut m1 (by unfold bn;omega) λ_ h=>h)) (da.nil _ _) (da.nil _ _)
def Fe(c:bQ H0 r T au s0){a:b2}{es:List aJ}{b9:ad}(b:fb H0 H r b3 cK au t s (a.cells b9 .az .az))(d:ck H (bn (cK+1)) es b9):
  W (pe (aE P aA) (.ptr r 0 0) (.ptr H0.next 0 0) (.ptr cK 0 0) H) (fx H0 r T au (.mk a es [] []) (a_ T [59] s)):=by
 have e:=c.rd.lt;have j:=b.dH;have k:=b.ff;rw[pe];refine aO (gN (c.mut b.m b.rd) [59] (by simp)) ?_;rintro _ H1 ⟨rfl,m1,i⟩;refine⟨m1.1,?_⟩;exact qj c (b.mut e m1 i.rd) (d.aW (dp.mut m1 (by unfold bn;omega) λ_ h=>h)) (da.nil _ _) (da.nil _ _)
