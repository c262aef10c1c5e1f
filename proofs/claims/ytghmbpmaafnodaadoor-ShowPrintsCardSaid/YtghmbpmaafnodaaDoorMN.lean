/-
  Texts of one proof, laid together: ShVa Va Vb Z12 Zb U1 U2 U3 U4 U5 Qa Vc Vd ShV ShVb.
-/
import Derived.Test.YtghmbpmaafnodaaDoorMM
set_option linter.unusedVariables false
set_option linter.unusedSimpArgs false
set_option linter.defProp false
open Option renaming some→D,none→Z
open Bool renaming true→X,false→U
open Go.cn.ad renaming int→I,str→Y
open Go.IntKind renaming i64→J
namespace Go.Proofs.YtghmbpmaafnodaaDoor
open Go.cn
open Nat (reduceAdd reduceLeDiff)
section
set_option maxRecDepth 100000
noncomputable section
def qz(G:ay)(ag ar:ad)(H:ae):O:=cT H [I J 0,I J 0,Y [],Y [],I J 0,ad.az,I J 0,I J 0,I J 0,I J 0,I J 0] λd a=>bg P .len [41] [ag] a λi=>j (ao P .geq 3 U ar i) λk=>aU (D k) (bd a (aY P a 45 d (.agg [I J 0,I J 0,Y [],Y [],I J 0,ad.az,I J 0,I J 0,I J 0,I J 0,I J 0])) λc=>j (aq P c 45 d) λr=>D (r,c)) (j (cl P 41 ag ar) λe=>j (aq P a 45 e) λh=>bd a (aY P a 45 d h) λc=>j (aq P c 45 d) λr=>D (r,c))
def xW(N:Nat){ag ar:ad}{H:ae}{r:ad×ae}(h:qz (aE P aA) ag ar H=D r):aE P aA 41 [ag,ar] H=D r:=cS N (S:=λG=>qz G ag ar H) Tryd.func41 (λ_=>by delta qz;kernel_rfl) h
def uH(G:ay)(ag ar:ad)(H:ae):O:=b1 H (d_ (H).next ag) λe c=>j (aH P 45 e 0) λo=>j (aq P c 3 o) λba=>aI c (G 47 [ba] c) λp a=>j (ao P .lss 3 U p ar) λq=>aU (D q) (j (aq P a 45 e) λh=>aI a (G 16 [h] a) λi d=>j (ao P .add 9 X (Y [40]) i) λk=>j (ao P .add 9 X k (Y [41])) λl=>D (l,d)) (j (aq P a 45 e) λm=>aI a (G 16 [m] a) λn d=>D (n,d))
def Ms(N:Nat){ag ar:ad}{H:ae}{r:ad×ae}(h:uH (aE P aA) ag ar H=D r):aE P aA 44 [ag,ar] H=D r:=cS N (S:=λG=>uH G ag ar H) Tryd.func44 (λ_=>by delta uH;kernel_rfl) h
def o2(G:ay)(N:Nat)(d:ad)(H:ae):O:=aI H (G 59 [d,Y [44,32]] H) λc a=>D (c,a)
def N9(G:ay)(N:Nat):∀aa H,bl P G N (o (o (o (bs Tryd.f45)))) (bf Tryd.f45) [] (bf Tryd.f45) aa H=o2 G N (aa 3) H:=by
 refine bC (aF _) λaa H=> ?_
 delta o2;kernel_rfl
def qA(G:ay)(N:Nat)(m:ad->ad->ad->ad->ae->O)(i ba:ad)(l c:ad)(H:ae):O:=j (ao P .lss 3 U c l) λw=>aU (D w) (j (cl P 41 ba c) λo=>j (aq P H 45 o) λp=>cT H [I J 0,I J 0,Y [],Y [],I J 0,ad.az,I J 0,I J 0,I J 0,I J 0,I J 0] λk d=>bd d (aY P d 45 k p) λa=>j (aq P a 45 k) λq=>aI a (G 16 [q] a) λs e=>b1 e (b6 P (e).next 50 1 [(0,s)]) λu h=>aI h (c0 P h [50,50] i u) λbS n=>j (ao P .add 3 X c (I J 1)) λv=>m bS ba l v n) (o2 G N i H)
def mi(G:ay)(N:Nat):Nat->ad->ad->ad->ad->ae->O
 |0,_,_,_,_,_=>Z
 |n+1,a,ba,c,d,H=>qA G N (mi G N n) a ba c d H
def N8(G:ay)(N:Nat)(c:ad->ad->ad->ad->ae->O):∀aa H,bl P G N (aN (aN (o (aN (o (o (bs Tryd.f45))))))) (λaa H=>c (aa 3) (aa 6) (aa 7) (aa 8) H) [(0,(λaa H=>o2 G N (aa 3) H))] (bf Tryd.f45) aa H=qA G N c (aa 3) (aa 6) (aa 7) (aa 8) H:=by
 refine bC (aF _) λaa H=> ?_
 delta qA;generalize o2 G N=a;revert a;refine id ?_;intro a;kernel_rfl
def uI(G:ay)(N:Nat)(ag:ad)(H:ae):O:=bg P .len [41] [ag] H λa=>mi G N N ad.az ag a (I J 0) H
def Mt(N:Nat){ag:ad}{H:ae}{r:ad×ae}(h:uI (aE P aA) N ag H=D r):aE P aA 45 [ag] H=D r:=cS N (S:=λG=>uI G N ag H) Tryd.func45 (λG=>dX ((aM ah ((aM ah ((aM ah (N9 G N) ((aM ah ((cX ah ((dW (k:=λm aa H=>mi G N m (aa 3) (aa 6) (aa 7) (aa 8) H) ah (λaa H=>ah) (λm=>N8 G N (mi G N m)))))) (aF _))))) (aF _))) (aF _))) (by delta uI;generalize mi G N N=a;revert a;refine id ?_;intro a;kernel_rfl)) h
def qB(G:ay)(H:ae):O:=some ((Y []),H)
def N_(G:ay)(N:Nat):∀aa H,bl P G N (o (o (bs Tryd.f46))) (bf Tryd.f46) [] (bf Tryd.f46) aa H=qB G H:=by
 refine bC (aF _) λaa H=> ?_
 delta qB;kernel_rfl
def o3(G:ay)(a o:ad)(H:ae):O:=aU (D o) (D ((Y [45]),H)) (j (ao P .eql 3 X a (I J 13)) λp=>aU (D p) (D ((Y [33]),H)) (j (ao P .eql 3 X a (I J 14)) λc=>aU (D c) (D ((Y [43]),H)) (j (ao P .eql 3 X a (I J 16)) λd=>aU (D d) (D ((Y [42]),H)) (j (ao P .eql 3 X a (I J 17)) λe=>aU (D e) (D ((Y [47]),H)) (j (ao P .eql 3 X a (I J 18)) λbS=>aU (D bS) (D ((Y [37]),H)) (j (ao P .eql 3 X a (I J 19)) λh=>aU (D h) (D ((Y [60]),H)) (j (ao P .eql 3 X a (I J 20)) λi=>aU (D i) (D ((Y [60,61]),H)) (j (ao P .eql 3 X a (I J 21)) λk=>aU (D k) (D ((Y [61,61]),H)) (j (ao P .eql 3 X a (I J 22)) λl=>aU (D l) (D ((Y [33,61]),H)) (j (ao P .eql 3 X a (I J 23)) λm=>aU (D m) (D ((Y [38,38]),H)) (j (ao P .eql 3 X a (I J 24)) λn=>aU (D n) (D ((Y [124,124]),H)) (qB G H))))))))))))
def Oa(G:ay)(N:Nat):∀aa H,bl P G N (o (aN (o (aN (o (bs Tryd.f46)))))) (λaa H=>qB G H) [(0,(λaa H=>qB G H))] (bf Tryd.f46) aa H=o3 G (aa 3) (aa 4) H:=by
 refine bC (aF _) λaa H=> ?_
 delta o3;generalize qB G=a;revert a;refine id ?_;intro a;kernel_rfl
def sq(G:ay)(ag:ad)(H:ae):O:=j (ao P .eql 3 X ag (I J 12)) λa=>aU (D a) (o3 G ag a H) (j (ao P .eql 3 X ag (I J 15)) λba=>o3 G ag ba H)
def xX(N:Nat){ag:ad}{H:ae}{r:ad×ae}(h:sq (aE P aA) ag H=D r):aE P aA 46 [ag] H=D r:=cS N (S:=λG=>sq G ag H) Tryd.func46 (λG=>dX ((aM ah ((aM ah (N_ G N) ((aM ah ((cX ah ((aM ah (Oa G N) (aF _))))) (aF _))))) (aF _))) (by delta sq;generalize o3 G=a;revert a;refine id ?_;intro a;kernel_rfl)) h
def jx(G:ay)(H:ae):O:=some ((I J 7),H)
def Ob(G:ay)(N:Nat):∀aa H,bl P G N (o (o (bs Tryd.f47))) (bf Tryd.f47) [] (bf Tryd.f47) aa H=jx G H:=by
 refine bC (aF _) λaa H=> ?_
 delta jx;kernel_rfl
def qD(G:ay)(a:ad)(H:ae):O:=aU (D a) (D ((I J 6),H)) (jx G H)
def Of(G:ay)(N:Nat):∀aa H,bl P G N (o (o (o (o (o (o (o (o (o (o (o (aN (o (aN (o (bs Tryd.f47)))))))))))))))) (λaa H=>jx G H) [(0,(λaa H=>jx G H))] (bf Tryd.f47) aa H=qD G (aa 20) H:=by
 refine bC (aF _) λaa H=> ?_
 delta qD;generalize jx G=a;revert a;refine id ?_;intro a;kernel_rfl
def o4(G:ay)(c bS:ad)(H:ae):O:=aU (D bS) (D ((I J 5),H)) (j (ao P .eql 3 X c (I J 12)) λa=>aU (D a) (qD G a H) (j (ao P .eql 3 X c (I J 13)) λd=>qD G d H))
def Oe(G:ay)(N:Nat):∀aa H,bl P G N (o (o (o (o (o (o (o (o (o (aN (o (aN (o (bs Tryd.f47)))))))))))))) (λaa H=>jx G H) [(0,(λaa H=>jx G H))] (bf Tryd.f47) aa H=o4 G (aa 3) (aa 16) H:=by
 refine bC ((dt ah (aF _) ((aM ah (Of G N) (aF _))))) λaa H=> ?_
 delta o4;generalize qD G=a;revert a;refine id ?_;intro a;kernel_rfl
def qC(G:ay)(a e:ad)(H:ae):O:=aU (D e) (D ((I J 4),H)) (j (ao P .eql 3 X a (I J 16)) λc=>aU (D c) (o4 G a c H) (j (ao P .eql 3 X a (I J 17)) λd=>aU (D d) (o4 G a d H) (j (ao P .eql 3 X a (I J 18)) λh=>o4 G a h H)))
def Od(G:ay)(N:Nat):∀aa H,bl P G N (o (o (o (o (o (o (o (aN (o (aN (o (bs Tryd.f47)))))))))))) (λaa H=>jx G H) [(0,(λaa H=>jx G H))] (bf Tryd.f47) aa H=qC G (aa 3) (aa 13) H:=by
 refine bC ((dt ah (aF _) ((aM ah (Oe G N) (aF _))))) λaa H=> ?_
 delta qC;generalize o4 G=a;revert a;refine id ?_;intro a;kernel_rfl
def nz(G:ay)(a e:ad)(H:ae):O:=aU (D e) (D ((I J 3),H)) (j (ao P .eql 3 X a (I J 14)) λc=>aU (D c) (qC G a c H) (j (ao P .eql 3 X a (I J 15)) λd=>qC G a d H))
def Oc(G:ay)(N:Nat):∀aa H,bl P G N (o (o (o (o (o (aN (o (aN (o (bs Tryd.f47)))))))))) (λaa H=>jx G H) [(0,(λaa H=>jx G H))] (bf Tryd.f47) aa H=nz G (aa 3) (aa 8) H:=by
 refine bC ((dt ah (aF _) ((aM ah (Od G N) (aF _))))) λaa H=> ?_
 delta nz;generalize qC G=a;revert a;refine id ?_;intro a;kernel_rfl
def uJ(G:ay)(ag:ad)(H:ae):O:=j (ao P .eql 3 X ag (I J 24)) λh=>aU (D h) (D ((I J 1),H)) (j (ao P .eql 3 X ag (I J 23)) λi=>aU (D i) (D ((I J 2),H)) (j (ao P .eql 3 X ag (I J 19)) λd=>aU (D d) (nz G ag d H) (j (ao P .eql 3 X ag (I J 20)) λa=>aU (D a) (nz G ag a H) (j (ao P .eql 3 X ag (I J 21)) λc=>aU (D c) (nz G ag c H) (j (ao P .eql 3 X ag (I J 22)) λe=>nz G ag e H)))))
def Mu(N:Nat){ag:ad}{H:ae}{r:ad×ae}(h:uJ (aE P aA) ag H=D r):aE P aA 47 [ag] H=D r:=cS N (S:=λG=>uJ G ag H) Tryd.func47 (λG=>dX ((aM ah ((aM ah (Ob G N) ((aM ah ((cX ah ((aM ah ((dt ah (aF _) ((aM ah ((dt ah (aF _) ((aM ah (Oc G N) (aF _))))) (aF _))))) (aF _))))) (aF _))))) (aF _))) (by delta uJ;generalize nz G=a;revert a;refine id ?_;intro a;kernel_rfl)) h
def ur(G:ay)(ag:ad)(H:ae):O:=b1 H (d_ (H).next ag) λar a=>j (aH P 40 ar 1) λn=>j (aq P a 3 n) λo=>bg P .max [3,3] [o,I J 0] a λba=>bg P .min [3,3] [ba,I J 3] a λi=>aI a (G 54 [Y [91],i] a) λp e=>aI e (G 54 [Y [93],i] e) λl h=>j (aH P 40 ar 0) λc=>j (aq P h 9 c) λd=>j (ao P .add 9 U p d) λk=>j (ao P .add 9 U k l) λm=>bif ((bh (aq P a 9 c) d&&(bh (aq P e 9 c) d&&bh (aq P h 9 c) d))&&X)then(D (m,h))else Z
def Ma(N:Nat){ag:ad}{H:ae}{r:ad×ae}(h:ur (aE P aA) ag H=D r):aE P aA 20 [ag] H=D r:=cS N (S:=λG=>ur G ag H) Tryd.func20 (λ_=>by delta ur;kernel_rfl) h
def nr(G:ay)(ar A:ad)(H:ae):O:=j (aH P 45 ar 0) λB=>j (aq P H 3 B) λE=>aI H (G 46 [E] H) λl a=>j (ao P .neq 9 X l (Y [])) λF=>aU (D F) (j (aH P 45 ar 0) λn=>j (aq P a 3 n) λo=>aI a (G 47 [o] a) λk c=>j (aq P c 45 A) λp=>aI c (G 44 [p,k] c) λq d=>j (aH P 45 ar 4) λe=>j (aq P d 41 e) λh=>aI d (G 41 [h,I J 1] d) λw i=>j (ao P .add 3 X k (I J 1)) λx=>aI i (G 44 [w,x] i) λy m=>j (ao P .add 9 X q (Y [32])) λs=>j (ao P .add 9 U s l) λu=>j (ao P .add 9 X u (Y [32])) λv=>j (ao P .add 9 U v y) λz=>bif ((bh (aq P c 41 e) h&&(bh (aq P d 41 e) h&&X))&&X)then(D (z,m))else Z) (D ((Y []),a))
def Ny(G:ay)(N:Nat):∀aa H,bl P G N (o (o (o (bs Tryd.f16)))) (bf Tryd.f16) [] (bf Tryd.f16) aa H=nr G (aa 1) (aa 3) H:=by
 refine bC (aF _) λaa H=> ?_
 delta nr;kernel_rfl
def mb(G:ay)(ar c h:ad)(H:ae):O:=aU (D h) (j (aH P 45 ar 0) λi=>j (aq P H 3 i) λk=>aI H (G 46 [k] H) λl a=>j (aq P a 45 c) λd=>aI a (G 44 [d,I J 6] a) λm e=>j (ao P .add 9 U l m) λn=>bif ((bh (aq P H 45 c) d&&(bh (aq P a 45 c) d&&X))&&X)then(D (n,e))else Z) (nr G ar c H)
def Nz(G:ay)(N:Nat):∀aa H,bl P G N (o (o (o (o (o (o (o (o (o (o (o (o (o (o (o (o (o (o (o (o (o (o (o (aN (o (aN (o (o (bs Tryd.f16))))))))))))))))))))))))))))) (λaa H=>nr G (aa 1) (aa 3) H) [(0,(λaa H=>nr G (aa 1) (aa 3) H))] (bf Tryd.f16) aa H=mb G (aa 1) (aa 3) (aa 86) H:=by
 refine bC (aF _) λaa H=> ?_
 delta mb;generalize nr G=a;revert a;refine id ?_;intro a;kernel_rfl
def sj(G:ay)(ag:ad)(H:ae):O:=b1 H (d_ (H).next ag) λar i=>j (aH P 45 ar 4) λba=>j (aq P i 41 ba) λaP=>aI i (G 41 [aP,I J 0] i) λa0 v=>cT v [I J 0,I J 0,Y [],Y [],I J 0,ad.az,I J 0,I J 0,I J 0,I J 0,I J 0] λe s=>bd s (aY P s 45 e a0) λa=>j (aH P 45 ar 0) λa7=>j (aq P a 3 a7) λd=>j (ao P .eql 3 X d (I J 1)) λx=>aU (D x) (j (aH P 45 ar 1) λy=>j (aq P a 3 y) λz=>aI a (G 42 [z] a) λA c=>D (A,c)) (j (ao P .eql 3 X d (I J 2)) λB=>aU (D B) (j (aH P 45 ar 1) λE=>j (aq P a 3 E) λF=>j (ao P .neq 3 X F (I J 0)) λK=>aI a (G 43 [K] a) λL c=>D (L,c)) (j (ao P .eql 3 X d (I J 3)) λM=>aU (D M) (j (aH P 45 ar 3) λN=>j (aq P a 40 N) λQ=>aI a (G 20 [Q] a) λR c=>j (ao P .add 9 X (Y [110,117,108,108,32]) R) λS=>D (S,c)) (j (ao P .eql 3 X d (I J 4)) λT=>aU (D T) (j (aH P 45 ar 2) λV=>j (aq P a 9 V) λW=>D (W,a)) (j (ao P .eql 3 X d (I J 5)) λaa=>aU (D aa) (j (aq P a 45 e) λab=>aI a (G 44 [ab,I J 7] a) λaf c=>j (ao P .add 9 X af (Y [46])) λah=>j (aH P 45 ar 2) λk=>j (aq P c 9 k) λl=>j (ao P .add 9 U ah l) λai=>bif ((bh (aq P a 9 k) l&&bh (aq P c 9 k) l)&&X)then(D (ai,c))else Z) (j (ao P .eql 3 X d (I J 6)) λaj=>aU (D aj) (j (aq P a 45 e) λak=>aI a (G 44 [ak,I J 7] a) λal c=>j (aH P 45 ar 4) λm=>j (aq P c 41 m) λn=>aI c (G 41 [n,I J 1] c) λan h=>aI h (G 16 [an] h) λap w=>j (ao P .add 9 X al (Y [91])) λam=>j (ao P .add 9 U am ap) λau=>j (ao P .add 9 X au (Y [93])) λav=>bif ((bh (aq P a 41 m) n&&(bh (aq P c 41 m) n&&X))&&X)then(D (av,w))else Z) (j (ao P .eql 3 X d (I J 7)) λaw=>aU (D aw) (j (aH P 45 ar 4) λaA=>j (aq P a 41 aA) λaB=>aI a (G 45 [aB] a) λaC c=>j (aH P 45 ar 2) λo=>j (aq P c 9 o) λp=>j (ao P .add 9 X p (Y [40])) λax=>j (ao P .add 9 U ax aC) λaE=>j (ao P .add 9 X aE (Y [41])) λaF=>bif ((bh (aq P a 9 o) p&&bh (aq P c 9 o) p)&&X)then(D (aF,c))else Z) (j (ao P .eql 3 X d (I J 8)) λaG=>aU (D aG) (j (aH P 45 ar 3) λaJ=>j (aq P a 40 aJ) λaK=>aI a (G 20 [aK] a) λaL c=>j (ao P .add 9 X (Y [110,101,119,32]) aL) λaM=>D (aM,c)) (j (ao P .eql 3 X d (I J 9)) λaN=>aU (D aN) (j (aH P 45 ar 3) λaO=>j (aq P a 40 aO) λaQ=>aI a (G 20 [aQ] a) λaR c=>j (aq P c 45 e) λq=>aI c (G 16 [q] c) λaV h=>j (ao P .add 9 X (Y [110,101,119,32,91]) aR) λaS=>j (ao P .add 9 X aS (Y [93,40])) λaT=>j (ao P .add 9 U aT aV) λaW=>j (ao P .add 9 X aW (Y [41])) λaX=>bif ((bh (aq P a 45 e) q&&(bh (aq P c 45 e) q&&X))&&X)then(D (aX,h))else Z) (j (ao P .eql 3 X d (I J 10)) λaZ=>aU (D aZ) (j (aq P a 45 e) λa1=>aI a (G 16 [a1] a) λa2 c=>j (ao P .add 9 X (Y [108,101,110,40]) a2) λa3=>j (ao P .add 9 X a3 (Y [41])) λa4=>D (a4,c)) (j (ao P .eql 3 X d (I J 11)) λa5=>aU (D a5) (D ((Y [114,101,97,100,40,41]),a)) (j (ao P .eql 3 X d (I J 12)) λu=>aU (D u) (mb G ar e u a) (j (ao P .eql 3 X d (I J 13)) λa6=>mb G ar e a6 a))))))))))))
def Ff(N:Nat){ag:ad}{H:ae}{r:ad×ae}(h:sj (aE P aA) ag H=D r):aE P aA 16 [ag] H=D r:=cS N (S:=λG=>sj G ag H) Tryd.func16 (λG=>dX ((aM ah ((aM ah ((aM ah (Ny G N) ((aM ah ((cX ah ((aM ah ((dt ah (aF _) ((aM ah ((dt ah (aF _) ((aM ah ((dt ah (aF _) ((aM ah ((dt ah (aF _) ((aM ah ((dt ah (aF _) ((aM ah ((dt ah (aF _) ((aM ah ((dt ah (aF _) ((aM ah ((dt ah (aF _) ((aM ah ((dt ah (aF _) ((aM ah ((dt ah (aF _) ((aM ah ((dt ah (aF _) ((aM ah (Nz G N) (aF _))))) (aF _))))) (aF _))))) (aF _))))) (aF _))))) (aF _))))) (aF _))))) (aF _))))) (aF _))))) (aF _))))) (aF _))))) (aF _))))) (aF _))))) (aF _))) (aF _))) (by delta sj;generalize mb G=a;revert a;refine id ?_;intro a;kernel_rfl)) h
end
end
def DM{H:ae}{k:Int}:W (aE P aA 47 [I J k] H) λv H'=>v= I J (dh k)/\H'=H:=by
 refine cG (λ_=>Mu 0) ?_;unfold uJ nz qC o4 qD jx;unfold dh;have i:∀m:Int,k=m->(k==m)=true:=λm h=>by simpa using h
 have cz:∀m:Int,k≠m->(k==m)=false:=λm h=>by simpa using h
 by_cases a:k=24
 ·simp-implicitDefEqProofs(disch:=try exact aj)only[bg,bx,cZ,i _ a];refine⟨_,_,rfl,?_,rfl⟩;rw[if_pos a];rfl
 by_cases c:k=23
 ·simp-implicitDefEqProofs(disch:=try exact aj)only[bg,bx,cZ,cz _ a,i _ c];refine⟨_,_,rfl,?_,rfl⟩;rw[if_neg a,if_pos c];rfl
 by_cases l:19<=k/\k<=22
 ·have:k=19\/k=20\/k=21\/k=22:=af;rcases this with rfl|rfl|rfl|rfl<;>exact⟨_,_,rfl,rfl,rfl⟩
 by_cases e:k=14\/k=15
 ·rcases e with rfl|rfl<;>exact⟨_,_,rfl,rfl,rfl⟩
 by_cases j:16<=k/\k<=18
 ·have:k=16\/k=17\/k=18:=af;rcases this with rfl|rfl|rfl<;>exact⟨_,_,rfl,rfl,rfl⟩
 by_cases d:k=12\/k=13
 ·rcases d with rfl|rfl<;>exact⟨_,_,rfl,rfl,rfl⟩
 ·simp-implicitDefEqProofs(disch:=try exact aj)only[bg,bx,cZ,cz 24 af,cz 23 af,cz 19 af,cz 20 af,cz 21 af,cz 22 af,cz 14 af,cz 15 af,cz 16 af,cz 17 af,cz 18 af,cz 12 af,cz 13 af];refine⟨_,_,rfl,?_,rfl⟩;rw[if_neg a,if_neg c,if_neg l,if_neg e,if_neg j,if_neg d];rfl
def Pc{H:ae}{k:Int}(h:14<=k)(a1:k<=24):W (aE P aA 46 [I J k] H) λv H'=>v= Y (gZ k)/\H'=H:=by
 refine cG (λ_=>xX 0) ?_;have a:k=14\/k=15\/k=16\/k=17\/k=18\/k=19\/k=20\/k=21\/k=22\/k=23\/k=24:=af;unfold sq o3;rcases a with rfl|rfl|rfl|rfl|rfl|rfl|rfl|rfl|rfl|rfl|rfl<;>exact⟨_,_,rfl,rfl,rfl⟩
def Fx{H:ae}{k:Int}(h:k=12\/k=13):W (aE P aA 46 [I J k] H) λv H'=>v= Y (bif k==12 then[45]else[33])/\H'=H:=by
 refine cG (λ_=>xX 0) ?_;unfold sq o3;rcases h with rfl|rfl<;>exact⟨_,_,rfl,rfl,rfl⟩
def EZ(x:aG):∀n,Lib.repeatL x n=(List.replicate n x).flatten
 |0=>rfl
 |n+1=>by rw[Lib.repeatL,EZ x n,List.replicate_succ,List.flatten_cons]
def xO{H:ae}{s:aG}{n:Nat}(h:s.length*n<=140737488355328)(a:n<=9223372036854775807):aE P aA 54 [Y s,I J n] H=D (Y (List.replicate n s).flatten,H):=by
 refine mO ?_;show(if 0<=(n:Int)/\(n:Int)<=9223372036854775807/\s.length*(n:Int).toNat<=140737488355328 then D (ad.str (Lib.repeatL s (n:Int).toNat),H)else Z)=_;rw[Int.toNat_natCast,if_pos ⟨af,af,h⟩,EZ]
def K4(a b:Int)(H:ae):cg P H .max [3,3] [I J a,I J b]=D (I J (max a b)):=by
 simp[cg,s4];omega
def K1(a b:Int)(H:ae):cg P H .min [3,3] [I J a,I J b]=D (I J (min a b)):=by
 simp[cg,s5];omega
def type20{H:ae}{x:aG}{z:Int}(i:0<=z)(j:z<=3)(k:x.length<=100):W (aE P aA 20 [.agg [Y x,I J z]] H) λv H'=>v= Y (flat (c5 x z))/\aP H H':=by
 refine cG (λ_=>Ma 0) ?_;have d:∀l,d_ l (.agg [Y x,I J z])=D (.ptr l 0 0,.row U 2 [[Y x,I J z]]):=λl=>hA l _ rfl
 have dr:=ae.bM H (.row U 2 [[Y x,I J z]]);obtain⟨n,rfl⟩:∃n:Nat,z=n:=⟨z.toNat,af⟩;have m1:max (n:Int) 0=n:=af;have m2:min (n:Int) 3=n:=af;have e:∀H,aE P aA 54 [Y [91],I J n] H=D (Y (List.replicate n [91]).flatten,H):=λH=>xO (by simp only[List.length_cons,List.length_nil];omega) af
 have h:∀H,aE P aA 54 [Y [93],I J n] H=D (Y (List.replicate n [93]).flatten,H):=λH=>xO (by simp only[List.length_cons,List.length_nil];omega) af
 have m:((List.replicate n ([91]:aG)).flatten).length=n:=by simp
 have o:((List.replicate n ([93]:aG)).flatten).length=n:=by simp
 have a:ao P .add 9 U (Y (List.replicate n [91]).flatten) (Y x)=D (Y ((List.replicate n [91]).flatten++x)):=bV af;have c:ao P .add 9 U (Y ((List.replicate n [91]).flatten++x)) (Y (List.replicate n [93]).flatten)=D (Y ((List.replicate n [91]).flatten++x++(List.replicate n [93]).flatten)):=bV (by rw[List.length_append];omega);rw[ur,wo];simp-implicitDefEqProofs(disch:=try exact aj)only[reduceAdd,reduceLeDiff,reduceIte,ax,d,dr,bg,K4,K1,m1,m2,e,h,e2,a,c,bm];exact bb.2 ⟨by rw[Int.toNat_natCast];unfold hs;rw[List.append_assoc],aP.push _ _⟩
def tn{H:ae}{l i n:Nat}{cap:Option Nat}{ro:Bool}{els:List (List ad)}{j:Nat}{z:Int}(p:z=j)(q:j<n){a:bK}{kv:ad}(h:kv.one=X)(e:H.get l=D (.row ro 11 els))(c:els[i+j]? =D (a.cells kv)):
  W (aE P aA 41 [.aD l i n 11 cap,I J z] H) λv H'=>v= .agg (a.cells kv)/\aP H H':=by
 subst p;refine cG (λ_=>xW 0) ?_;have k:¬((n:Int)<=(j:Int)):=af;have m:(j:Int)<(n:Int):=af;have d:(0:Int)<=(j:Int):=af;have o:((j:Int)).toNat=j:=af;have g1:∀b,(H.push b).get l=D (.row ro 11 els):=λb=>(aP.push H b).get e
 simp only[bK.cells]at c ⊢;unfold qz;simp-implicitDefEqProofs(disch:=try exact aj)only[reduceAdd,reduceLeDiff,reduceIte,ax,k,m,d,o,g1,c,h,decide_false];exact bb.2 ⟨rfl,aP.push _ _⟩
def ck.rm{H:ae}{ok:Nat->Prop}{ks:List aJ}{kv:ad}(h:ck H ok ks kv)(H':ae):cg P H' .len [41] [kv]=D (I J ks.length):=by
 rcases h with⟨rfl,e⟩|⟨l,i,cap,ro,els,rfl,_⟩|⟨l,i,cap,rfl,e⟩
 ·rw[e];exact p7
 ·generalize ks.length=n;exact k4
 ·rw[e];exact k4
def CS{H:ae}{ok:Nat->Prop}{ks:List aJ}{kv:ad}(h:ck H ok ks kv)(q:ks.length<=1000000000):W (aE P aA 41 [kv,I J 0] H) λv H'=>∃b c,v= .agg (bK.cells b c)/\c.one=X/\(∀cy d r,ks= .mk cy d::r->b=cy/\ck H ok d c)/\aP H H':=by
 cases ks with
 |nil=>
  refine cG (λ_=>xW 0) ?_;have o:∀H',cg P H' .len [41] [kv]=D (I J 0):=λH'=>h.rm H'
  have m:(0:Int)<=0:=af;unfold qz;simp-implicitDefEqProofs(disch:=try exact aj)only[reduceAdd,reduceLeDiff,reduceIte,ax,o,m,decide_true];exact bb.2 ⟨{kind:=0,pos:=0},.az,rfl,rfl,λ_ _ _ h=>(by cases h),aP.push _ _⟩
 |cons e r=>
  obtain⟨a,es⟩:=e;obtain⟨l,i,cap,ro,els,c,rfl,g1,aT,k⟩:=h.ga (n:=r.length+1) (by simp) (j:=0) rfl;refine(tn (j:=0) rfl af k.eb g1 aT).mono ?_;rintro v H' ⟨rfl,p⟩;exact⟨a,c,rfl,k.eb,λcy d r h=>by cases h;exact⟨rfl,k⟩,p⟩
def sR(e:aJ):Prop:=∀(d m:Nat),cF d m e->cM e<=1000000000->∀(a:bK) (ks:List aJ),e= .mk a ks->∀(H:ae) (ok:Nat->Prop) (kv:ad),ck H ok ks kv->fk.ia H->W (aE P aA 16 [.agg (a.cells kv)] H) λr H'=>r= Y (flat (bp e))/\aP H H'
def P9{H:ae}{a:bK}{ks:List aJ}{kv:ad}{m:Nat}(p:kv.one=X)(q:∀H',aP H H'->W (aE P aA 16 [.agg (a.cells kv)] H') λr j=>r= Y (flat (bp (.mk a ks)))/\aP H' j)(s:(flat (bp (.mk a ks))).length<=1000000000):
  W (aE P aA 44 [.agg (a.cells kv),I J m] H) λr H'=>r= Y (flat (cw m (.mk a ks)))/\aP H H':=by
 refine cG (λ_=>Ms 0) ?_;have i:∀l,d_ l (.agg (a.cells kv))=D (.ptr l 0 0,.row U 11 [a.cells kv]):=λl=>hA l _ (by simp only[bK.cells,List.all_cons,List.all_nil,hF,h0,p,Bool.and_self])
 have pp:=aP.push H (.row U 11 [a.cells kv]);have dr:=ae.bM H (.row U 11 [a.cells kv]);have e:=λH' (h:aP H H')=>q H' h
 simp only[bK.cells]at i pp dr e ⊢;unfold uH;simp-implicitDefEqProofs(disch:=try exact aj)only[reduceAdd,reduceLeDiff,reduceIte,ax,i];refine aO DM ?_;rintro _ _ ⟨rfl,rfl⟩;refine⟨bm _,?_⟩;by_cases hm:((dh a.kind:Nat):Int)<(m:Int)
 ·have d:(aJ.mk a ks).cD<m:=by unfold aJ.cD aJ.kind;simp only;omega
  simp-implicitDefEqProofs(disch:=try exact aj)only[bg,bx,cZ,Nat.reduceAdd,Nat.reduceLeDiff,reduceIte,ad.cells,cQ,dN,aq,cL,dr,hm,decide_true];refine aO (e _ pp) ?_;rintro _ k ⟨rfl,c⟩;refine⟨c.1,?_⟩;have n:ao P .add 9 X (Y [40]) (Y (flat (bp (.mk a ks))))=D (Y (40::flat (bp (.mk a ks)))):=kh _ _ _ _ (by simp only[List.length_cons,List.length_nil];omega);have o:ao P .add 9 X (Y (40::flat (bp (.mk a ks)))) (Y [41])=D (Y (40::flat (bp (.mk a ks))++[41])):=kh _ _ _ _ (by simp only[List.length_cons,List.length_nil];omega);simp only[n,o,dY];exact bb.2 ⟨by rw[xx d,cu,cv];rfl,pp.trans c⟩
 ·have d:¬(aJ.mk a ks).cD<m:=by unfold aJ.cD aJ.kind;simp only;omega
  simp-implicitDefEqProofs(disch:=try exact aj)only[bg,bx,cZ,Nat.reduceAdd,Nat.reduceLeDiff,reduceIte,ad.cells,cQ,dN,aq,cL,dr,hm,decide_false];refine aO (e _ pp) ?_;rintro _ k ⟨rfl,c⟩;refine⟨c.1,?_⟩;exact bb.2 ⟨by rw[tR d],pp.trans c⟩
def Jj:∀(f n:Nat),n<=f->∀(g:Nat) (acc:aG),n<10^(g+1)->jG (g+1) n acc=Lib.decDigits n++acc:=by
 intro f
 induction f with
 |zero=>
  intro n c g acc _;obtain rfl:n=0:=af;rw[jG,Lib.decDigits];rfl
 |succ f e=>
  intro n c g acc a;rw[jG,Lib.decDigits];by_cases h:n<10
  ·rw[dif_pos h,if_pos af,Nat.mod_eq_of_lt h];rfl
  ·rw[dif_neg h,if_neg af];have d:n/10<=f:=af;cases g with
   |zero=>simp at a;omega
   |succ g=>
    rw[e (n/10) d g _ (by rw[Nat.pow_succ]at a;omega)];simp
def db.leaf{B:Nat}(a:bK):db B (.mk a []):=by rw[db,dG];exact⟨Nat.zero_le _,trivial⟩
def db.one{B:Nat}(c:2<=B)(a:bK){e:aJ}(h:db B e):db B (.mk a [e]):=by
 rw[db,dG,dG];exact⟨by simp;omega,h,trivial⟩
def db.two{B:Nat}(c:2<=B)(a:bK){e f:aJ}(h:db B e)(a1:db B f):db B (.mk a [e,f]):=by
 rw[db,dG,dG,dG];exact⟨by simp;omega,h,a1,trivial⟩
def dG.append{B:Nat}{e:aJ}(h:db B e):∀{l:List aJ},dG B l->dG B (l++[e])
 |[],_=>by simp only[List.nil_append];rw[dG,dG];exact⟨h,trivial⟩
 |x::xs,a=>by
  rw[dG]at a;simp only[List.cons_append];rw[dG];exact⟨a.1,dG.append h a.2⟩
structure HA(T:List Tok)(B n:Nat):Prop where
 row:∀lev s p,fJ T n lev s=some p->db B p.1
 hI:∀lev e s p,db B e->hI T n lev e s=some p->db B p.1
 unary:∀s p,kG T n s=some p->db B p.1
 sign:∀x k s p,nP T n x k s=some p->db B p.1
 chain:∀s p,mL T n s=some p->db B p.1
 fl:∀e s p,db B e->fl T n e s=some p->db B p.1
 single:∀b c s p,h7 T n b c s=some p->db B p.1
 first:∀s p,jo T n s=some p->db B p.1
 name:∀s p,oD T n s=some p->db B p.1
 fresh:∀s p,ow T n s=some p->db B p.1
 list:∀s p,lY T n s=some p->p.1.length<=B/\dG B p.1
 hX:∀l s p,l.length+n<=B->dG B l->hX T n l s=some p->p.1.length<=B/\dG B p.1
def ew{α β:Type}{x:Option α}{f:α->Option β}{b:β}(h:x.bind f=D b):∃a,x=D a/\f a=D b:=c1.1 h
def FJ(T:List Tok)(B:Nat):∀n,n+2<=B->HA T B n
 |0,_=>by
  constructor<;>intros<;>rename_i h<;>cases h
 |n+1,j=>by
  have a:=FJ T B n af;have d:2<=B:=af;refine⟨?_,?_,?_,?_,?_,?_,?_,?_,?_,?_,?_,?_⟩
  ·intro lev s p h;simp only[fJ]at h;split at h
   ·exact a.unary _ _ h
   ·obtain⟨q,g1,g2⟩:=ew h;exact a.hI _ _ _ _ (a.row _ _ _ g1) g2
  ·intro lev e s p he h;simp only[Go.Proofs.YtghmbpmaafnodaaDoor.hI]at h;split at h
   ·cases h;exact he
   ·obtain⟨q,g1,g2⟩:=ew h;exact a.hI _ _ _ _ (db.two d _ he (a.row _ _ _ g1)) g2
  ·intro s p h;simp only[kG,Bool.cond_eq_ite]at h;split at h
   ·exact a.sign _ _ _ _ h
   ·split at h
    ·exact a.sign _ _ _ _ h
    ·exact a.chain _ _ h
  ·intro x k s p h;simp only[nP,Bool.cond_eq_ite]at h;split at h
   ·obtain⟨q,g1,g2⟩:=ew h;cases g2;exact db.one d _ (a.unary _ _ g1)
   ·cases h;exact db.leaf _
  ·intro s p h;simp only[mL]at h;obtain⟨q,g1,g2⟩:=ew h;exact a.fl _ _ _ (a.first _ _ g1) g2
  ·intro e s p he h;simp only[Go.Proofs.YtghmbpmaafnodaaDoor.fl,Bool.cond_eq_ite]at h;split at h
   ·split at h
    ·exact a.fl _ _ _ (db.one d _ he) h
    ·split at h
     ·obtain⟨q,g1,g2⟩:=ew h;exact a.fl _ _ _ (db.two d _ he (a.single _ _ _ _ g1)) g2
     ·cases h;exact he
   ·cases h;exact he
  ·intro b c s p h;simp only[h7,Bool.cond_eq_ite]at h;split at h
   ·obtain⟨q,g1,g2⟩:=ew h;cases g2;exact a.row _ _ q g1
   ·cases h;exact db.leaf _
  ·intro s p h;simp only[jo,Bool.cond_eq_ite]at h;split at h
   ·cases h;exact db.leaf _
   ·split at h
    ·cases h;exact db.leaf _
    ·split at h
     ·exact a.name _ _ h
     ·split at h
      ·split at h
       ·split at h
        ·exact a.single _ _ _ _ h
        ·cases h;exact db.leaf _
       ·split at h
        ·cases h;exact db.leaf _
        ·split at h
         ·cases h;exact db.leaf _
         ·split at h
          ·exact a.fresh _ _ h
          ·split at h
           ·obtain⟨q,g1,g2⟩:=ew h;cases g2;exact db.one d _ (a.single _ _ _ _ g1)
           ·split at h
            ·cases h;exact db.leaf _
            ·cases h;exact db.leaf _
      ·cases h;exact db.leaf _
  ·intro s p h;simp only[oD,Bool.cond_eq_ite]at h;split at h
   ·obtain⟨q,g1,g2⟩:=ew h;cases g2;rw[db];exact a.list _ _ g1
   ·cases h;exact db.leaf _
  ·intro s p h;simp only[ow,Bool.cond_eq_ite]at h;split at h
   ·obtain⟨q,g1,g2⟩:=ew h;cases g2;exact db.one d _ (a.single _ _ _ _ g1)
   ·cases h;exact db.leaf _
  ·intro s p h;simp only[lY,Bool.cond_eq_ite]at h;split at h
   ·split at h
    ·cases h;exact⟨Nat.zero_le _,by rw[dG];trivial⟩
    ·obtain⟨q,g1,g2⟩:=ew h;exact a.hX _ _ _ (by simp;omega) (by rw[dG,dG];exact⟨a.row _ _ _ g1,trivial⟩) g2
   ·cases h;exact⟨Nat.zero_le _,by rw[dG];trivial⟩
  ·intro l s p m i h;simp only[Go.Proofs.YtghmbpmaafnodaaDoor.hX,Bool.cond_eq_ite]at h;split at h
   ·obtain⟨q,g1,g2⟩:=ew h;exact a.hX _ _ _ (by simp;omega) (dG.append (a.row _ _ _ g1) i) g2
   ·cases h;exact⟨by show l.length<=B;omega,i⟩
def tt(T:List Tok)(s:an):left T s<=T.length:=by unfold left;split<;>omega
def fe.same{H:ae}{v:ad}{T:List Tok}(h:fe H v T):bh (D v) v=true:=by
 rcases h with⟨rfl,_⟩|⟨l,i,cap,rfl,_⟩
 ·exact xK
 ·exact l1 _ _ _ _ _
def cJ.below{H:ae}{ok:Nat->Prop}{e:aJ}{v:ad}(h:cJ H ok e v):cJ H (λl=>ok l/\l<H.next) e v:=cJ.aW (λ_ _ _ h g=>⟨⟨h,ae.aV g⟩,g⟩) e v h
def vx.fin{ok:Nat->Prop}{H bP:ae}{r:Nat}{T:List Tok}{au:ad}{s s':an}{a:b2}{es:List aJ}{b9:ad}{x:Nat}(e:bQ H r T au s)(m:ca r H bP)(d:bJ bP r au s')(i:ck bP (λl=>ok l/\l≠x) es b9)(j:H.next<=x)(c:bW):
  vx ok H r T au (.mk a es [] []) s' (.agg (a.cells b9 .az .az)) (bP.set x c):=by
 have k:=e.rd.lt;have m':=m.cW (.inr j) c;refine⟨m',e.mut m' ?_,lK.2 ⟨b9,.az,.az,rfl,i.aW (dp.set _ (by simp) λl h=>h.1),da.nil _ _,da.nil _ _⟩⟩;unfold bJ at d ⊢;rw[ae.get_set_other af];exact d
def dM.append{H:ae}{ok:Nat->Prop}:∀(es:List br) (cs:List (List ad)) (e:br) (c:List ad),dM H ok es cs->cs.length=es.length->ev H ok e (.agg c)->dM H ok (es++[e]) (cs++[c])
 |[],[],e,c,_,_,h=>by
  simp only[List.nil_append];rw[dM,dM];exact⟨h,trivial⟩
 |[],_::_,e,c,_,a,_=>by simp at a
 |_::_,[],e,c,h,_,_=>by rw[dM]at h;exact h.elim
 |i::es,d::cs,e,c,h,a,he=>by
  rw[dM]at h;simp only[List.cons_append];rw[dM];exact⟨h.1,dM.append es cs e c h.2 (by simpa using a) he⟩
def yt:P.underlying 71=D (.slice 112):=ah
def zT:hO P 112=D 136:=ah
def vT:eU P 112=D (.agg [I J 0,Y [],Y [],I J 0,.az,.az,.az,I J 0,I J 0]):=ah
def Is{H:ae}{L:Nat}{cs:List ad}{cap:Option Nat}{ro:Bool}(a:H.get L=D (.row ro 9 [cs])):c0 P H [71,71] .az (.aD L 0 1 9 cap)=D (.aD H.next 0 1 9 Z,H.push (.row U 9 [cs])):=by
 simp[c0,hU,jF,dK,yt,qP,zT,vT,ie,eJ,a,ad.cells]
def It{H:ae}{L l n:Nat}{cs:List ad}{els:List (List ad)}{cap:Option Nat}{ro:Bool}(d:H.get L=D (.row ro 9 [cs]))(e:H.get l=D (.row U 9 els))(h:els.length=n)(i:n<=1000000000):c0 P H [71,71] (.aD l 0 n 9 Z) (.aD L 0 1 9 cap)=D (.aD H.next 0 (n+1) 9 Z,(H.set l .dead).push (.row U 9 (els++[cs]))):=by
 have a:(n+1)*136<=140737488355328:=af;have c:n+1<=9223372036854775807:=af;simp[c0,hU,jF,dK,yt,qP,zT,vT,ie,eJ,d,e,ad.cells,h,a,c];rw[List.take_of_length_le af]
def Pk(l:Nat)(cs:List ad)(h:cs.length=9)(a:cs.all ad.one=X):b6 P l 71 1 [(0,.agg cs)]=D (.aD l 0 1 9 (D 1),.row U 9 [cs]):=by
 simp[b6,yt,qP,vT,ad.cells,je,h,a,hF,h0,tP]
def lI(n0:Nat)(H:ae)(l:List br)(v:ad):Prop:=(v= .az/\l=[])\/∃L els,v= .aD L 0 l.length 9 Z/\H.get L=D (.row U 9 els)/\n0<=L/\els.length=l.length/\dM H (λk=>n0<=k/\k≠L) l els
def lI.mut{n0 r:Nat}{H H':ae}{l:List br}{v:ad}(h:lI n0 H l v)(m:ca r H H')(j:r<n0):lI n0 H' l v:=by
 rcases h with h|⟨L,els,a,c,d,e,i⟩
 ·exact .inl h
 ·exact .inr ⟨L,els,a,m.get c af,d,e,dM.aW (ek.mut m af λ_ h=>h) _ _ i⟩
def lI.FO{n0:Nat}{H:ae}{l:List br}{v:ad}(h:lI n0 H l v):da H (bn n0) l v:=by
 rcases h with⟨rfl,rfl⟩|⟨L,els,a,c,d,i,e⟩
 ·exact da.nil _ _
 ·exact .inr (.inl ⟨L,0,Z,U,els,a,d,c,by rw[List.drop_zero];exact dM.aW (ek.lU λ_ h=>h.1) _ _ e⟩)
def lI.app{n0 m:Nat}{H:ae}{l:List br}{v:ad}(h:lI n0 H l v){e:br}{cs:List ad}(he:ev H (bn m) e (.agg cs))(hm:n0<=m)(x:∀L n c,v= .aD L 0 n 9 c->L<m)(z:n0<=H.next)(w:l.length<=1000000000):
  ∃p H',c0 P (H.push (.row U 9 [cs])) [71,71] v (.aD H.next 0 1 9 (D 1))=D (p,H')/\lI n0 H' (l++[e]) p/\c7 (n0<= ·) H H'/\H.next+1<=H'.next:=by
 have o:=ae.bM H (.row U 9 [cs]);rcases h with⟨rfl,rfl⟩|⟨L,els,rfl,j,s,i,u⟩
 ·refine⟨_,_,Is o,.inr ⟨_,[cs],rfl,ae.bM _ _,by simp only[ae.b8];omega,rfl,?_⟩,(((aP.push _ _).bI _).mut _),by simp only[ae.b8];omega⟩;rw[List.nil_append,dM,dM];refine⟨ev.aW ⟨λk ro els a g=>⟨⟨by unfold bn at a;omega,?_⟩,((aP.push _ _).bI _).get g⟩,λk ro els a g=>⟨⟨by unfold bn at a;omega,?_⟩,((aP.push _ _).bI _).get g⟩⟩ e _ he,trivial⟩
  all_goals have:=ae.aV g;simp only[ae.b8];omega
 ·have y:=x L _ _ rfl;have A:=ae.aV j;have q:(H.push (.row U 9 [cs])).get L=D (.row U 9 els):=(aP.push _ _).get j;have d:∀k b,H.get k=D b->k≠L->(((H.push (.row U 9 [cs])).set L .dead).push (.row U 9 (els++[cs]))).get k=D b:=λk b g a=>by
   have:=ae.aV g;rw[ae.dC (by simp only[ae.dz,ae.b8];omega),ae.get_set_other af,ae.dC af];exact g
  refine⟨_,_,It o q i w,.inr ⟨_,els++[cs],by rw[List.length_append];rfl,ae.bM _ _,by simp only[ae.dz,ae.b8];omega,by simp[i],?_⟩,?_,by simp only[ae.dz,ae.b8];omega⟩
  ·refine dM.append _ _ _ _ (dM.aW ⟨λk ro es a g=>⟨⟨a.1,?_⟩,d _ _ g a.2⟩,λk ro es a g=>⟨⟨a.1,?_⟩,d _ _ g a.2⟩⟩ _ _ u) i (ev.aW ⟨λk ro es a g=>⟨⟨by unfold bn at a;omega,?_⟩,d _ _ g (by unfold bn at a;omega)⟩,λk ro es a g=>⟨⟨by unfold bn at a;omega,?_⟩,d _ _ g (by unfold bn at a;omega)⟩⟩ e _ he)
   all_goals have:=ae.aV g;simp only[ae.dz,ae.b8];omega
  ·exact(((aP.push _ _).mut _).cW (.inl s) _).bI _
def cY(H:ae)(ok:Nat->Prop)(H':ae)(ok':Nat->Prop):Prop:=∀l b,ok l->H.get l=D b->ok' l/\H'.get l=D b
def cY.s{H H':ae}{ok ok':Nat->Prop}(h:cY H ok H' ok'):ek H ok H' ok':=⟨λl _ _ a b=>h l _ a b,λl _ _ a b=>h l _ a b⟩
def cY.le{H:ae}{ok ok':Nat->Prop}(h:∀l,ok l->ok' l):cY H ok H ok':=λl _ a b=>⟨h l a,b⟩
def cY.mut{H H':ae}{ok:Nat->Prop}{S:Nat->Prop}(m:c7 S H H')(h:∀l,ok l->¬S l):cY H ok H' ok:=λl _ a b=>⟨a,m.get b (h l a)⟩
def cY.aL{H H':ae}{ok:Nat->Prop}(m:aP H H'):cY H ok H' ok:=λ_ _ a b=>⟨a,m.get b⟩
def cY.trans{H1 d e:ae}{a b c:Nat->Prop}(h:cY H1 a d b)(k:cY d b e c):cY H1 a e c:=λl x y z=>k l x (h l x y z).1 (h l x y z).2
structure hd(α:Type) where
 esz:Nat
 V:ae->(Nat->Prop)->α->List ad->Prop
 len:∀{H ok a cs},V H ok a cs->cs.length=esz/\cs.all ad.one=true
 aW:∀{H ok H' ok'} {a:α} {cs},cY H ok H' ok'->V H ok a cs->V H' ok' a cs
section
variable {α:Type}{K:hd α}{H H':ae}{ok ok':Nat->Prop}
def c_(K:hd α)(ok:Nat->Prop)(H:ae)(l:List α)(v:ad):Prop:=(v= .az/\l=[])\/∃L els,v= .aD L 0 l.length K.esz Z/\ok L/\H.get L=D (.row U K.esz els)/\els.length=l.length/\∀(i:Nat) (a:α),l[i]? =D a->∃cs,els[i]? =D cs/\K.V H (λk=>ok k/\k≠L) a cs
def dw(K:hd α)(H:ae)(ok:Nat->Prop)(l:List α)(v:ad):Prop:=(v= .az/\l=[])\/(∃L i cap ro els,v= .aD L i l.length K.esz (Option.map (· +l.length) cap)/\ok L/\H.get L=D (.row ro K.esz els)/\∀(j:Nat) (a:α),l[j]? =D a->∃cs,els[i+j]? =D cs/\K.V H ok a cs)\/∃L i cap,v= .aD L i 0 K.esz cap/\l=[]
def c_.one{l:List α}{v:ad}(h:c_ K ok H l v):v.one=true:=by
 rcases h with⟨rfl,_⟩|⟨L,els,rfl,_⟩<;>rfl
def dw.one{l:List α}{v:ad}(h:dw K H ok l v):v.one=true:=by
 rcases h with⟨rfl,_⟩|⟨L,i,cap,ro,els,rfl,_⟩|⟨L,i,cap,rfl,_⟩<;>rfl
def c_.nil:c_ K ok H [] .az:= .inl ⟨rfl,rfl⟩
def dw.nil:dw K H ok [] .az:= .inl ⟨rfl,rfl⟩
def c_.aW{l:List α}{v:ad}(p:cY H ok H' ok')(h:c_ K ok H l v):c_ K ok' H' l v:=by
 rcases h with h|⟨L,els,j,d,e,m,n⟩
 ·exact .inl h
 ·refine .inr ⟨L,els,j,(p _ _ d e).1,(p _ _ d e).2,m,λi a o=> ?_⟩;obtain⟨cs,aT,q⟩:=n i a o;exact⟨cs,aT,K.aW (λk b c g=>⟨⟨(p _ _ c.1 g).1,c.2⟩,(p _ _ c.1 g).2⟩) q⟩
def dw.aW{l:List α}{v:ad}(p:cY H ok H' ok')(h:dw K H ok l v):dw K H' ok' l v:=by
 rcases h with h|⟨L,i,cap,ro,els,e,c,d,k⟩|h
 ·exact .inl h
 ·refine .inr (.inl ⟨L,i,cap,ro,els,e,(p _ _ c d).1,(p _ _ c d).2,λj a m=> ?_⟩);obtain⟨cs,aT,n⟩:=k j a m;exact⟨cs,aT,K.aW p n⟩
 ·exact .inr (.inr h)
def c_.aD{l:List α}{v:ad}(h:c_ K ok H l v):dw K H ok l v:=by
 rcases h with h|⟨L,els,c,d,e,n,i⟩
 ·exact .inl h
 ·refine .inr (.inl ⟨L,0,Z,U,els,c,d,e,λj a k=> ?_⟩);obtain⟨cs,aT,m⟩:=i j a k;exact⟨cs,by rw[Nat.zero_add];exact aT,K.aW (cY.le λ_ h=>h.1) m⟩
structure kN(t e esz:Nat):Prop where
 un:P.underlying t=some (.slice e)
 ts:cA P e=some esz
 gD:∃b,hO P e=some b/\b<=200
 vS:∃z,eU P e=some z/\z.cells.length=esz/\z.cells.all ad.one=true
 pos:0<esz/\esz<=100
def Iv{t e esz:Nat}(y:kN t e esz){L:Nat}{cs:List ad}{cap:Option Nat}{ro:Bool}(d:H.get L=D (.row ro esz [cs])):c0 P H [t,t] .az (.aD L 0 1 esz cap)=D (.aD H.next 0 1 esz Z,H.push (.row U esz [cs])):=by
 obtain⟨b,c,j⟩:=y.gD;obtain⟨z,h,i,_⟩:=y.vS;have a:b<=140737488355328:=af;simp[c0,hU,jF,dK,y.un,y.ts,c,h,i,y.pos.1,ie,eJ,d,a]
def Iw{t e esz:Nat}(y:kN t e esz){L l n:Nat}{cs:List ad}{els:List (List ad)}{cap:Option Nat}{ro:Bool}(i:H.get L=D (.row ro esz [cs]))(j:H.get l=D (.row U esz els))(k:els.length=n)(p:n<=1000000000):c0 P H [t,t] (.aD l 0 n esz Z) (.aD L 0 1 esz cap)=D (.aD H.next 0 (n+1) esz Z,(H.set l .dead).push (.row U esz (els++[cs]))):=by
 obtain⟨b,h,d⟩:=y.gD;obtain⟨z,m,o,_⟩:=y.vS;have a:(n+1)*b<=140737488355328:=Nat.le_trans (Nat.mul_le_mul_left (n+1) d) af;have c:n+1<=9223372036854775807:=af;simp[c0,hU,jF,dK,y.un,y.ts,h,m,o,y.pos.1,ie,eJ,i,j,k,a,c];rw[List.take_of_length_le af]
def sB{t e esz:Nat}(y:kN t e esz)(l:Nat){cs:List ad}(h:cs.length=esz)(d:cs.all ad.one=X):b6 P l t 1 [(0,.agg cs)]=D (.aD l 0 1 esz (D 1),.row U esz [cs]):=by
 obtain⟨z,i,j,k⟩:=y.vS;have n:1*esz<=16777216:=by have:=y.pos.2;omega
 have a:esz<=16777216:=by have:=y.pos.2;omega
 have c:(ad.agg cs).cells=cs:=rfl;simp[b6,y.un,y.ts,i,j,je,h,d,a,c];have m:∀x∈z.cells,x.one=true:=by simpa using k
 rw[decide_eq_true m];rfl
def c_.app{t e:Nat}(y:kN t e K.esz){l:List α}{v:ad}(h:c_ K ok H l v){okE:Nat->Prop}{a:α}{cs:List ad}(he:K.V H okE a cs)(m:∀k b,okE k->H.get k=D b->ok' k/\∀L,v= .aD L 0 l.length K.esz Z->k≠L)(j:∀k b,ok k->H.get k=D b->ok' k)(s:ok' (H.next+1))(G:l.length<=1000000000):
  ∃w H',c0 P (H.push (.row U K.esz [cs])) [t,t] v (.aD H.next 0 1 K.esz (D 1))=D (w,H')/\c_ K ok' H' (l++[a]) w/\H.next+1<=H'.next/\(∀k,k<H.next->(∀L,v= .aD L 0 l.length K.esz Z->k≠L)->H'.get k=H.get k):=by
 have p:=ae.bM H (.row U K.esz [cs]);rcases h with⟨rfl,rfl⟩|⟨L,els,rfl,Q,n,o,B⟩
 ·refine⟨_,_,Iv y p,.inr ⟨_,[cs],rfl,by simpa only[ae.b8]using s,ae.bM _ _,rfl,λi b d=> ?_⟩,by simp only[ae.b8];omega,λk j _=> ?_⟩
  ·rcases i with _|i
   ·cases d;refine⟨cs,rfl,K.aW (λk b j g=> ?_) he⟩;have:=ae.aV g;exact⟨⟨(m k b j g).1,by simp only[ae.b8];omega⟩,((aP.push _ _).bI _).get g⟩
   ·simp at d
  ·rw[ae.dC (by simp only[ae.b8];omega),ae.dC af]
 ·have R:=ae.aV n;have A:=(aP.push H (.row U K.esz [cs])).get n;have u:∀k b,H.get k=D b->k≠L->(((H.push (.row U K.esz [cs])).set L .dead).push (.row U K.esz (els++[cs]))).get k=D b:=λk b g j=>by
   have:=ae.aV g;rw[ae.dC (by simp only[ae.dz,ae.b8];omega),ae.get_set_other af,ae.dC af];exact g
  refine⟨_,_,Iw y p A o G,.inr ⟨_,els++[cs],by rw[List.length_append];rfl,by simpa only[ae.dz,ae.b8]using s,ae.bM _ _,by simp[o],λi b d=> ?_⟩,by simp only[ae.dz,ae.b8];omega,λk j M=> ?_⟩
  ·by_cases F:i<l.length
   ·rw[List.getElem?_append_left F]at d;obtain⟨c,aT,O⟩:=B i b d;refine⟨c,by rw[List.getElem?_append_left af];exact aT,K.aW (λk x q g=> ?_) O⟩;have:=ae.aV g;exact⟨⟨j k x q.1 g,by simp only[ae.dz,ae.b8];omega⟩,u k x g q.2⟩
   ·rw[List.getElem?_append_right af]at d;have E:i-l.length=0:=by
     rcases N:i-l.length with _|z
     ·rfl
     ·rw[N]at d;simp at d
    rw[E]at d;cases d;refine⟨cs,by rw[List.getElem?_append_right af,show i-els.length=0 by omega];rfl,K.aW (λk x j g=> ?_) he⟩;have:=ae.aV g;exact⟨⟨(m k x j g).1,by simp only[ae.dz,ae.b8];omega⟩,u k x g ((m k x j g).2 L rfl)⟩
  ·rw[ae.dC (by simp only[ae.dz,ae.b8];omega),ae.get_set_other (by exactλe=>M L rfl e.symm),ae.dC af]
end
def pW:hd aG:=⟨1,λ_ _ s cs=>cs=[Y s],λh=>by rw[h];exact⟨rfl,rfl⟩,λ_ h=>h⟩
def DL:kN 50 9 1:=⟨ah,yp,⟨_,(by kernel_rfl:hO P 9=D 16),bk⟩,⟨_,(by kernel_rfl:eU P 9=D (Y [])),rfl,rfl⟩,bk⟩
def FT:∀(els:List (List ad)) (l:List aG),els.length=l.length->(∀(i:Nat) (a:aG),l[i]? =D a->els[i]? =D [Y a])->mx els=D l
 |[],[],_,_=>rfl
 |[],_::_,h,_=>by cases h
 |_::_,[],h,_=>by cases h
 |e::els,s::l,j,h=>by
  have c:=h 0 s rfl;simp only[List.getElem?_cons_zero,aS]at c;subst c;rw[mx,FT els l (by simpa using j) λi a d=>by simpa using h (i+1) a (by simpa using d)];rfl
def x8(l:Nat)(s:aG):b6 P l 50 1 [(0,Y s)]=D (.aD l 0 1 1 (D 1),.row U 1 [[Y s]]):=ah
def tm{H:ae}{ok:Nat->Prop}{l:List aG}{v:ad}(h:c_ pW ok H l v){sep:aG}(o:l.length<=1000000000)(m:(Lib.join l sep).length<=140737488355328):aE P aA 59 [v,Y sep] H=D (Y (Lib.join l sep),H):=by
 refine mO ?_;rcases h with⟨rfl,rfl⟩|⟨L,els,rfl,_,c,d,e⟩
 ·rfl
 ·have j:eJ H L 0 l.length 1=D els:=by
   unfold eJ;rw[c];show(if pW.esz=1/\0+l.length<=els.length then D ((els.drop 0).take l.length)else Z)=_;rw[if_pos ⟨rfl,af⟩,List.drop_zero,List.take_of_length_le af]
  have aB:mx els=D l:=FT els l d λi a k=>by
   obtain⟨cs,aT,n⟩:=e i a k;rw[aT,show cs=[Y a]from n]
  show(match eJ H L 0 l.length 1 with
   |some es=>(match mx es with
    |some xs=>if xs.length<=140737488355328/\(Lib.join xs sep).length<=140737488355328 then D (ad.str (Lib.join xs sep),H)else Z
    |none=>Z)
   |none=>Z)=_
  rw[j];simp only
  rw[aB];simp only
  rw[if_pos ⟨af,m⟩]
def wR:∀ks:List aJ,Lib.join (ks.map λe=>flat (bp e)) [44,32]=flat (eQ (di ks))
 |[]=>rfl
 |[e]=>by rw[List.map_cons,List.map_nil,Lib.join_one,di,di,eQ]
 |e::f::r=>by
  have a:=wR (f::r);rw[List.map_cons,Lib.join_cons,List.map_cons,Lib.joinTail,List.map_cons,List.flatten_cons];rw[List.map_cons,Lib.join_cons,Lib.joinTail]at a;have c:di (e::f::r)=(e.cD,bp e)::(f.cD,bp f)::di r:=by rw[di,di]
  have d:di (f::r)=(f.cD,bp f)::di r:=by rw[di]
  rw[c,eQ,cv,cu,dq,<-d,<-a]
  ·simp only[List.append_assoc];rfl
  ·intro h;cases h
def c_.aL{α:Type}{K:hd α}{H H':ae}{ok:Nat->Prop}{l:List α}{v:ad}(h:c_ K ok H l v)(p:aP H H'):c_ K ok H' l v:=h.aW (cY.aL p)
section
variable {N:Nat}{H0:ae}{L i n:Nat}{cap:Option Nat}{ro:Bool}{els:List (List ad)}{ok:Nat->Prop}
def DC(E:H0.get L=D (.row ro 11 els))(F:fk.ia H0)(ai:n<=1000000000){all:List aJ}(ag:(flat (eQ (di all))).length<=1000000000):∀(es:List aJ) (j k:Nat) (done:List aJ) (v:ad) (H:ae),all=done++es->done.length=j->(∀e∈es,sR e/\∃d,cF d 0 e)->(∀e∈es,cM e<=1000000000)->dv H0 ok es (els.drop (i+j))->n=j+es.length->es.length<k->aP H0 H->c_ pW (λl=>H0.next<=l) H (done.map λe=>flat (bp e)) v->
  W (mi (aE P aA) N k v (.aD L i n 11 cap) (I J n) (I J j) H) λv H'=>v= Y (flat (eQ (di all)))/\aP H0 H'
 |_,_,0,_,_,_,_,_,_,_,_,_,x,_,_=>af
 |[],j,k+1,done,v,H,m,B,aB,hw,he,o,x,pp,u=>by
  have w:¬((j:Int)<(n:Int)):=by simp at o;omega
  rw[List.append_nil]at m;subst m;have s:aE P aA 59 [v,Y [44,32]] H=D (Y (flat (eQ (di all))),H):=by
   rw[<-wR];exact tm u (by rw[List.length_map];simp at o;omega) (by rw[wR];omega)
  simp-implicitDefEqProofs(disch:=try exact aj)only[mi,qA,o2,bg,bx,cZ,w,decide_false,s,e2,bm];exact bb.2 ⟨rfl,pp⟩
 | .mk a ks::es,j,k+1,done,v,H,m,B,aB,hw,he,o,x,pp,u=>by
  simp only[List.length_cons]at o x;have w:(j:Int)<(n:Int):=af;have am:((j:Int)).toNat=j:=af;have aa:(0:Int)<=(j:Int):=af;have au:IntKind.i64.wrap ((j:Int)+1)=((j+1:Nat):Int):=by rw[wrap_i64 af af];omega
  obtain⟨cs,aT,ap,aq⟩:=he.cons;obtain⟨y,ar,O⟩:=hQ.1 ap;cases ar;obtain⟨aC,d,an⟩:=aB _ (List.mem_cons_self ..);have g1:=pp.get E;have ak:=O.eb;have p:=pp.bI (.row U 11 [a.cells y]);have M:=aC d 0 an (hw _ (List.mem_cons_self ..)) a ks rfl _ ok y (O.aL p) (F.aL p);simp only[bK.cells]at aT p M;simp-implicitDefEqProofs(disch:=try exact aj)only[mi,qA,reduceAdd,reduceLeDiff,reduceIte,ax,w,aa,am,decide_true,g1,aT,ak];refine aO M ?_;rintro _ c ⟨rfl,z⟩;refine⟨z.1,?_⟩;have q:=p.trans z;have A:=(u.aL (aP.push H (.row U 11 [a.cells y]))).aL z;have al:b6 P c.next 50 1 [(0,Y (flat (bp (.mk a ks))))]=D (.aD c.next 0 1 1 (D 1),.row U 1 [[Y (flat (bp (.mk a ks)))]]):=x8 _ _
  have aw:done.length<=1000000000:=af;obtain⟨Q,H',s,R,S,b3⟩:=c_.app (K:=pW) (ok':=λl=>H0.next<=l) DL A (okE:=λ_=>False) (a:=flat (bp (.mk a ks))) (cs:=[Y (flat (bp (.mk a ks)))]) rfl (λ_ _ h=>h.elim) (λ_ _ h _=>h) (by have:=q.1;show H0.next<=c.next+1;omega) (by rw[List.length_map];omega);have ao:aP H0 H':=by
   refine⟨by have:=q.1;omega,λl ah=> ?_⟩;have:=q.1;rw[b3 l af λL G ab=> ?_]
   ·exact q.2 l ah
   ·subst ab;rcases A with⟨rfl,_⟩|⟨L',_,rfl,av,_⟩
    ·cases G
    ·cases G;omega
  have V:c0 P (c.push (.row U 1 [[Y (flat (bp (.mk a ks)))]])) [50,50] v (.aD c.next 0 1 1 (D 1))=D (Q,H'):=s;have T:(c.push (.row U 1 [[Y (flat (bp (.mk a ks)))]])).next<=H'.next:=by rw[ae.b8];exact S
  simp-implicitDefEqProofs(disch:=try exact aj)only[bg,bx,al,V,e2,T,cZ,au];exact DC E F ai ag es (j+1) k (done++[.mk a ks]) Q H' (by rw[m,List.append_assoc];rfl) (by rw[List.length_append,B];rfl) (λe h=>aB e (List.mem_cons_of_mem _ h)) (λe h=>hw e (List.mem_cons_of_mem _ h)) (by rw[show i+(j+1)=i+j+1 by omega];exact aq) af af ao (by rw[List.map_append];exact R)
end
def KT{H:ae}{ok:Nat->Prop}{ks:List aJ}{kv:ad}(h:ck H ok ks kv)(m:fk.ia H)(aB:∀e∈ks,sR e/\∃d,cF d 0 e)(hw:∀e∈ks,cM e<=1000000000)(q:ks.length<=100000000)(o:(flat (eQ (di ks))).length<=1000000000):W (aE P aA 45 [kv] H) λv H'=>v= Y (flat (eQ (di ks)))/\aP H H':=by
 refine cG (λ_=>Mt (ks.length+1)) ?_;have k:=λH'=>h.rm H'
 rw[uI];simp-implicitDefEqProofs(disch:=try exact aj)only[reduceAdd,reduceLeDiff,reduceIte,ax,k];by_cases c:ks.length=0
 ·obtain rfl:=List.length_eq_zero_iff.1 c;have n:¬((0:Int)<(0:Int)):=af;have j:aE P aA 59 [.az,Y [44,32]] H=D (Y [],H):=tm (ok:=λ_=>True) (l:=[]) (.inl ⟨rfl,rfl⟩) (Nat.zero_le _) (Nat.zero_le _);simp-implicitDefEqProofs(disch:=try exact aj)only[mi,qA,o2,reduceAdd,reduceLeDiff,reduceIte,ax,n,decide_false,j,e2,Int.natCast_zero];exact bb.2 ⟨rfl,.refl _⟩
 ·rcases h with⟨_,a⟩|⟨L,i,cap,ro,els,rfl,_,g1,p⟩|⟨_,_,_,_,a⟩
  ·exact absurd a c
  ·exact DC (N:=ks.length+1) g1 m af o ks 0 (ks.length+1) [] .az H rfl rfl aB hw (by rw[Nat.add_zero];exact p) af af (.refl _) (.inl ⟨rfl,rfl⟩)
  ·exact absurd a c
open Classical in
def Kr{H:ae}(c:fk.ia H){n:Int}(d:0<=n)(a:n<=9223372036854775807):aE P aA 42 [I J n] H=D (Y (jG 20 n.toNat []),H):=by
 refine mO ?_;show(if-9223372036854775808<=n/\n<=9223372036854775807/\H.get 0=D (.row X 1 j2)then D (ad.str (Lib.itoa n),H)else Z)=_;rw[if_pos ⟨af,a,c.u1⟩];unfold Lib.itoa;rw[if_neg af,Jj n.toNat n.toNat (bm _) 19 [] (by have:=Eu;omega),List.append_nil]
def Bi{H:ae}(b:Bool):aE P aA 43 [.bool b] H=D (Y (bif b then[116,114,117,101]else[102,97,108,115,101]),H):=by
 refine mO ?_;show D (ad.str (Lib.formatBool b),H)=_;cases b<;>rfl
def bS:∀e:aJ,sR e
 | .mk a ks=>by
  have aB:∀e∈ks,sR e:=λe he=>bS e
  intro d m aF hw b4 a7 he H ok kv O aG;cases he;have h:=aF.low (m':=0) (Nat.zero_le _);clear aF;have hlen:=p3 h;have aU:=O.eb;have ak:∀l,d_ l (.agg (a.cells kv))=D (.ptr l 0 0,.row U 11 [a.cells kv]):=λl=>hA l _ (by simp only[bK.cells,List.all_cons,List.all_nil,hF,h0,aU,Bool.and_self])
  have pp:=aP.push H (.row U 11 [a.cells kv]);have dr:=ae.bM H (.row U 11 [a.cells kv]);have ag:∀{S m':Nat} {b:bK} {i:List aJ},aJ.mk b i∈ks->cF S m' (.mk b i)->cM (.mk b i)<=1000000000/\∀(H':ae) (M:ad),ck H' ok i M->aP H H'->W (aE P aA 16 [.agg (b.cells M)] H') λr an=>r= Y (flat (bp (.mk b i)))/\aP H' an:=by
   intro S m' b i hm v;have hle:cM (.mk b i)<=bX ks:=by
    clear aB hlen O hw h ak pp dr
    induction ks with
    |nil=>cases hm
    |cons k r aZ=>
     rw[bX];rcases List.mem_cons.1 hm with rfl|hm
     ·omega
     ·have:=aZ hm;omega
   rw[cM]at hw;have aH:cM (.mk b i)<=1000000000:=af;exact⟨aH,λH' M al ay=>aB _ hm S m' v aH b i rfl H' ok M al (aG.aL ay)⟩
  have fv:∀{S m':Nat} {b:bK} {i:List aJ} (n:Nat) {z:Int},z=n->aJ.mk b i∈ks->cF S m' (.mk b i)->∀(H':ae) (M:ad),ck H' ok i M->aP H H'->W (aE P aA 44 [.agg (b.cells M),I J z] H') λr an=>r= Y (flat (cw n (.mk b i)))/\aP H' an:=by
   intro S m' b i n z aX hm v H' M al ay;subst aX;obtain⟨B,q⟩:=ag hm v;have:=p3 v;exact P9 al.eb (λQ T=>q Q M (al.aL T) (ay.trans T)) af
  have aR:ks.length<=1000000000:=by have:=rL ks;rw[cM]at hw;omega
  refine cG (λ_=>Ff 0) ?_;have aw:=CS (O.aL pp) aR;simp only[bK.cells]at ak pp dr aw ⊢;rw[sj];simp-implicitDefEqProofs(disch:=try exact aj)only[reduceAdd,reduceLeDiff,reduceIte,ax,ak];refine aO aw ?_;rintro _ Q ⟨b,G,rfl,bz,au,T⟩;refine⟨T.1,?_⟩;have V:=T.bI (.row U 11 [b.cells G]);have u:=pp.trans V;have s:=V.get dr;have g3:=ae.bM Q (.row U 11 [b.cells G]);have N:∀cy i r,ks= .mk cy i::r->b=cy/\ck (Q.push (.row U 11 [b.cells G])) ok i G:=λcy i r h=>⟨(au cy i r h).1,(au cy i r h).2.aL V⟩
  simp only[bK.cells]at V u s g3 N;clear aw au;simp-implicitDefEqProofs(disch:=try exact aj)only[reduceAdd,reduceLeDiff,reduceIte,ax,bz,s];have am:=O.aL u;have av:=aG.aL u;generalize Q.next=a9 at g3 ⊢
  generalize Q.push (.row U 11 [[I J b.kind,I J b.n,Y b.name,Y b.cp,I J b.c2,G,I J b.pos,I J b.u2,I J b.Gr,I J b.qO,I J b.ref]])=ab at V u s g3 N am av ⊢;clear T V ak pp dr;generalize H.next=a8 at s ⊢
  clear Q;cases h with
  |par B q y=>omega
  | @int d m n p B q y=>
   have w:=Kr av q y;simp-implicitDefEqProofs(disch:=try exact aj)only[reduceAdd,reduceLeDiff,reduceIte,ax,Int.reduceBEq,s,w,e2];refine bb.2 ⟨?_,u⟩;rw[e0];show _=ad.str (flat [.t ⟨2,[],n,0⟩]);simp[flat,bT.u5,u6]
  | @bool d m n p B q=>
   have w:aE P aA 43 [.bool X] ab=D (Y [116,114,117,101],ab):=Bi X;have A:aE P aA 43 [.bool U] ab=D (Y [102,97,108,115,101],ab):=Bi U;rcases q with rfl|rfl
   ·simp-implicitDefEqProofs(disch:=try exact aj)only[reduceAdd,reduceLeDiff,reduceIte,ax,Int.reduceBEq,Int.reduceBNe,s,w,A,e2];exact bb.2 ⟨by rw[e0];rfl,u⟩
   ·simp-implicitDefEqProofs(disch:=try exact aj)only[reduceAdd,reduceLeDiff,reduceIte,ax,Int.reduceBEq,Int.reduceBNe,s,w,A,e2];exact bb.2 ⟨by rw[e0];rfl,u⟩
  | @null d m x z p B q=>
   simp-implicitDefEqProofs(disch:=try exact aj)only[reduceAdd,reduceLeDiff,reduceIte,ax,Int.reduceBEq,s];refine aO (type20 q.1 q.2.1 (by have:=fh q;omega)) ?_;rintro _ K ⟨rfl,o⟩;refine⟨o.1,?_⟩;have a2:=hE x z;have:=fh q;have:=q.2.1;have w:ao P .add 9 X (Y [110,117,108,108,32]) (Y (flat (c5 x z)))=D (Y ([110,117,108,108,32]++flat (c5 x z))):=bV (by simp only[List.length_cons,List.length_nil];omega);simp only[w,dY];exact bb.2 ⟨by rw[e0];rfl,u.trans o⟩
  | @var d m x p B q=>
   simp-implicitDefEqProofs(disch:=try exact aj)only[reduceAdd,reduceLeDiff,reduceIte,ax,Int.reduceBEq,s];exact bb.2 ⟨by rw[e0];show _=ad.str (flat [cq x]);rw[iK,ch,List.append_nil],u⟩
  | @field d m x p e B q y=>
   obtain⟨cy,i⟩:=e;obtain⟨rfl,E⟩:=N _ _ _ rfl;rw[r3,c4]at hlen;have v:=fv 7 rfl (by simp) y _ G E u;simp only[bK.cells]at v;simp-implicitDefEqProofs(disch:=try exact aj)only[reduceAdd,reduceLeDiff,reduceIte,ax,Int.reduceBEq,s,g3];refine aO v ?_;rintro _ K ⟨rfl,o⟩;refine⟨o.1,?_⟩;have L:=o.get s;have:=er q;have w:ao P .add 9 X (Y (flat (cw 7 (.mk b i)))) (Y [46])=D (Y (flat (cw 7 (.mk b i))++[46])):=bV (by simp only[List.length_cons,List.length_nil];omega);have A:ao P .add 9 U (Y (flat (cw 7 (.mk b i))++[46])) (Y x)=D (Y (flat (cw 7 (.mk b i))++[46]++x)):=bV (by simp only[List.length_append,List.length_cons,List.length_nil];omega)
   simp-implicitDefEqProofs(disch:=try exact aj)only[reduceAdd,reduceLeDiff,reduceIte,ax,s,L,w,A];exact bb.2 ⟨by rw[r3,cv,cu,iK,ch];simp,u.trans o⟩
  | @item d m p e f B q y=>
   obtain⟨cy,i⟩:=e;obtain⟨c,cs⟩:=f;obtain⟨rfl,E⟩:=N _ _ _ rfl;obtain⟨l',aY,aK,a0,aM,kw,rfl,ar,aC,ah⟩:=am.ga (n:=2) rfl (j:=1) rfl;rw[r4,c4,ds,c4]at hlen;have v:=fv 7 rfl (by simp) q _ G E u;simp only[bK.cells]at v;simp-implicitDefEqProofs(disch:=try exact aj)only[reduceAdd,reduceLeDiff,reduceIte,ax,Int.reduceBEq,s,g3];refine aO v ?_;rintro _ K ⟨rfl,o⟩;refine⟨o.1,?_⟩;have L:=o.get s;simp-implicitDefEqProofs(disch:=try exact aj)only[reduceAdd,reduceLeDiff,reduceIte,ax,L];refine aO (tn (j:=1) rfl af ah.eb (o.get ar) aC) ?_;rintro _ ap ⟨rfl,F⟩;refine⟨F.1,?_⟩;have aW:=(ag (by simp) y).2 ap kw (ah.aL (o.trans F)) ((u.trans o).trans F)
   refine aO aW ?_;rintro _ aI ⟨rfl,ai⟩;refine⟨ai.1,?_⟩;have w:ao P .add 9 X (Y (flat (cw 7 (.mk b i)))) (Y [91])=D (Y (flat (cw 7 (.mk b i))++[91])):=bV (by simp only[List.length_cons,List.length_nil];omega);have A:ao P .add 9 U (Y (flat (cw 7 (.mk b i))++[91])) (Y (flat (bp (.mk c cs))))=D (Y (flat (cw 7 (.mk b i))++[91]++flat (bp (.mk c cs)))):=bV (by simp only[List.length_append,List.length_cons,List.length_nil];omega);have R:ao P .add 9 X (Y (flat (cw 7 (.mk b i))++[91]++flat (bp (.mk c cs)))) (Y [93])=D (Y (flat (cw 7 (.mk b i))++[91]++flat (bp (.mk c cs))++[93])):=bV (by simp only[List.length_append,List.length_cons,List.length_nil];omega)
   simp-implicitDefEqProofs(disch:=try exact aj)only[reduceAdd,reduceLeDiff,reduceIte,ax,s,L,w,A,R];exact bb.2 ⟨by rw[r4,cv,cu,cv,cu,ch];simp,((u.trans o).trans F).trans ai⟩
  | @call d m x p l B q y=>
   have:=er q;rw[cM]at hw hlen;simp only at hw hlen;rw[r2,mT,ds,c4]at hlen;have a5:=rL ks;have aS:(flat (eQ (di ks))).length<=1000000000:=af;have v:=KT am av (λe he=>⟨aB e he,_,y e he⟩) (λe he=>by
    obtain⟨c,cs⟩:=e;exact(ag he (y _ he)).1) af aS
   simp-implicitDefEqProofs(disch:=try exact aj)only[reduceAdd,reduceLeDiff,reduceIte,ax,Int.reduceBEq,s];refine aO v ?_;rintro _ K ⟨rfl,o⟩;refine⟨o.1,?_⟩;have L:=o.get s;have w:ao P .add 9 X (Y x) (Y [40])=D (Y (x++[40])):=bV (by simp only[List.length_cons,List.length_nil];omega);have A:ao P .add 9 U (Y (x++[40])) (Y (flat (eQ (di ks))))=D (Y (x++[40]++flat (eQ (di ks)))):=bV (by simp only[List.length_append,List.length_cons,List.length_nil];omega);have R:ao P .add 9 X (Y (x++[40]++flat (eQ (di ks)))) (Y [41])=D (Y (x++[40]++flat (eQ (di ks))++[41])):=bV (by simp only[List.length_append,List.length_cons,List.length_nil];omega)
   simp-implicitDefEqProofs(disch:=try exact aj)only[reduceAdd,reduceLeDiff,reduceIte,ax,s,L,w,A,R];exact bb.2 ⟨by rw[r2,iK,cu,cv,cu,ch];simp,u.trans o⟩
  | @new d m x p B q=>
   have a6:=er q;simp-implicitDefEqProofs(disch:=try exact aj)only[reduceAdd,reduceLeDiff,reduceIte,ax,Int.reduceBEq,s];refine aO (type20 (x:=x) (z:=0) (Int.le_refl 0) af af) ?_;rintro _ K ⟨rfl,o⟩;refine⟨o.1,?_⟩;have aV:flat (c5 x 0)=x:=by rw[wo];simp[hs]
   rw[aV];have w:ao P .add 9 X (Y [110,101,119,32]) (Y x)=D (Y ([110,101,119,32]++x)):=bV (by simp only[List.length_cons,List.length_nil];omega);simp only[w,dY];exact bb.2 ⟨by rw[e0];show _=ad.str (flat [wd [110,101,119],cf,cq x]);rw[eV,dq,iK,ch];simp,u.trans o⟩
  | @make d m x z p e B q y=>
   obtain⟨cy,i⟩:=e;obtain⟨rfl,E⟩:=N _ _ _ rfl;rw[r6,hW,eM,ds,c4,ds,ds,c4]at hlen;simp-implicitDefEqProofs(disch:=try exact aj)only[reduceAdd,reduceLeDiff,reduceIte,ax,Int.reduceBEq,s];refine aO (type20 q.1 q.2.1 (by have:=fh q;omega)) ?_;rintro _ K ⟨rfl,o⟩;refine⟨o.1,?_⟩;have L:=o.get s;have g4:=o.get g3;have v:=(ag (by simp) y).2 K G (E.aL o) (u.trans o);simp only[bK.cells]at v;simp-implicitDefEqProofs(disch:=try exact aj)only[reduceAdd,reduceLeDiff,reduceIte,ax,g4];refine aO v ?_;rintro _ ap ⟨rfl,F⟩;refine⟨F.1,?_⟩;have w:ao P .add 9 X (Y [110,101,119,32,91]) (Y (flat (c5 x z)))=D (Y ([110,101,119,32,91]++flat (c5 x z))):=bV (by simp only[List.length_cons,List.length_nil];omega)
   have A:ao P .add 9 X (Y ([110,101,119,32,91]++flat (c5 x z))) (Y [93,40])=D (Y ([110,101,119,32,91]++flat (c5 x z)++[93,40])):=bV (by simp only[List.length_append,List.length_cons,List.length_nil];omega);have R:ao P .add 9 U (Y ([110,101,119,32,91]++flat (c5 x z)++[93,40])) (Y (flat (bp (.mk b i))))=D (Y ([110,101,119,32,91]++flat (c5 x z)++[93,40]++flat (bp (.mk b i)))):=bV (by simp only[List.length_append,List.length_cons,List.length_nil];omega);have aq:ao P .add 9 X (Y ([110,101,119,32,91]++flat (c5 x z)++[93,40]++flat (bp (.mk b i)))) (Y [41])=D (Y ([110,101,119,32,91]++flat (c5 x z)++[93,40]++flat (bp (.mk b i))++[41])):=bV (by simp only[List.length_append,List.length_cons,List.length_nil];omega)
   have aa:=oK (a:=b) E.beq;simp only[bK.cells]at aa;rw[w,dY,A,dY,R,dY,aq,dY];simp-implicitDefEqProofs(disch:=try exact aj)only[reduceAdd,reduceLeDiff,reduceIte,ax,g3,g4,aa];exact bb.2 ⟨by rw[r6,eV,dq,cu,cv,cu,cu,cv,cu,ch];simp,(u.trans o).trans F⟩
  | @len d m p e B q=>
   obtain⟨cy,i⟩:=e;obtain⟨rfl,E⟩:=N _ _ _ rfl;rw[r5,hW,ds,c4]at hlen;have v:=(ag (by simp) q).2 ab G E u;simp only[bK.cells]at v;simp-implicitDefEqProofs(disch:=try exact aj)only[reduceAdd,reduceLeDiff,reduceIte,ax,Int.reduceBEq,s,g3];refine aO v ?_;rintro _ K ⟨rfl,o⟩;refine⟨o.1,?_⟩;have w:ao P .add 9 X (Y [108,101,110,40]) (Y (flat (bp (.mk b i))))=D (Y ([108,101,110,40]++flat (bp (.mk b i)))):=bV (by simp only[List.length_cons,List.length_nil];omega);have A:ao P .add 9 X (Y ([108,101,110,40]++flat (bp (.mk b i)))) (Y [41])=D (Y ([108,101,110,40]++flat (bp (.mk b i))++[41])):=bV (by simp only[List.length_append,List.length_cons,List.length_nil];omega)
   rw[w,dY,A,dY];exact bb.2 ⟨by rw[r5,eV,cu,cv,cu,ch];simp,u.trans o⟩
  | @read d m p B=>
   simp-implicitDefEqProofs(disch:=try exact aj)only[reduceAdd,reduceLeDiff,reduceIte,ax,Int.reduceBEq,s];exact bb.2 ⟨by rw[e0];rfl,u⟩
  | @sign d m k p e B q y=>
   obtain⟨cy,i⟩:=e;obtain⟨rfl,E⟩:=N _ _ _ rfl;rw[oJ q,ds]at hlen;have v:=fv 6 rfl (by simp) y _ G E u;simp only[bK.cells]at v;have aa:=oK (a:=b) E.beq;simp only[bK.cells]at aa;rcases q with rfl|rfl
   ·simp-implicitDefEqProofs(disch:=try exact aj)only[reduceAdd,reduceLeDiff,reduceIte,ax,Int.reduceBEq,s,mb];refine aO (Fx (.inl rfl)) ?_;rintro _ _ ⟨rfl,rfl⟩;refine⟨bm _,?_⟩;simp-implicitDefEqProofs(disch:=try exact aj)only[reduceAdd,reduceLeDiff,reduceIte,ax,g3];refine aO v ?_;rintro _ K ⟨rfl,o⟩;refine⟨o.1,?_⟩;have w:ao P .add 9 U (Y (bif (12:Int)==12 then[45]else[33])) (Y (flat (cw 6 (.mk b i))))=D (Y ([45]++flat (cw 6 (.mk b i)))):=bV (t:=9) (a:=[45]) (by simp only[List.length_cons,List.length_nil];omega);simp-implicitDefEqProofs(disch:=try exact aj)only[reduceAdd,reduceLeDiff,reduceIte,ax,w,g3,aa]
    exact bb.2 ⟨by rw[oJ (.inl rfl),cu];rfl,u.trans o⟩
   ·simp-implicitDefEqProofs(disch:=try exact aj)only[reduceAdd,reduceLeDiff,reduceIte,ax,Int.reduceBEq,s,mb];refine aO (Fx (.inr rfl)) ?_;rintro _ _ ⟨rfl,rfl⟩;refine⟨bm _,?_⟩;simp-implicitDefEqProofs(disch:=try exact aj)only[reduceAdd,reduceLeDiff,reduceIte,ax,g3];refine aO v ?_;rintro _ K ⟨rfl,o⟩;refine⟨o.1,?_⟩;have w:ao P .add 9 U (Y (bif (13:Int)==12 then[45]else[33])) (Y (flat (cw 6 (.mk b i))))=D (Y ([33]++flat (cw 6 (.mk b i)))):=bV (t:=9) (a:=[33]) (by simp only[List.length_cons,List.length_nil];omega);simp-implicitDefEqProofs(disch:=try exact aj)only[reduceAdd,reduceLeDiff,reduceIte,ax,w,g3,aa]
    exact bb.2 ⟨by rw[oJ (.inr rfl),cu];rfl,u.trans o⟩
  | @bin d m k p e f B q y aN aQ=>
   obtain⟨cy,i⟩:=e;obtain⟨c,cs⟩:=f;obtain⟨rfl,E⟩:=N _ _ _ rfl;obtain⟨l',aY,aK,a0,aM,kw,rfl,ar,aC,ah⟩:=am.ga (n:=2) rfl (j:=1) rfl;rw[r1 q,c4,eM,ds,eM]at hlen;have a4:=w6 q y;have cz:∀m:Int,m<14->(k==m)=false:=λm h=>by simp;omega
   have a1:IntKind.i64.wrap (((dh k:Nat):Int)+1)=((dh k+1:Nat):Int):=by have:=xe k;rw[wrap_i64 af af];omega
   have v:=fv (dh k) rfl (by simp) aN _ G E u;simp only[bK.cells]at v;simp-implicitDefEqProofs(disch:=try exact aj)only[reduceAdd,reduceLeDiff,reduceIte,ax,s,cz 1 af,cz 2 af,cz 3 af,cz 4 af,cz 5 af,cz 6 af,cz 7 af,cz 8 af,cz 9 af,cz 10 af,cz 11 af,cz 12 af,cz 13 af,mb];unfold nr;simp-implicitDefEqProofs(disch:=try exact aj)only[reduceAdd,reduceLeDiff,reduceIte,ax,s];refine aO (Pc q y) ?_;rintro _ _ ⟨rfl,rfl⟩;refine⟨bm _,?_⟩;have a3:(gZ k != [])=true:=by
    have O:k=14\/k=15\/k=16\/k=17\/k=18\/k=19\/k=20\/k=21\/k=22\/k=23\/k=24:=af;rcases O with rfl|rfl|rfl|rfl|rfl|rfl|rfl|rfl|rfl|rfl|rfl<;>rfl
   have aT:ao P .neq 9 X (Y (gZ k)) (Y [])=D (.bool X):=by
    have O:k=14\/k=15\/k=16\/k=17\/k=18\/k=19\/k=20\/k=21\/k=22\/k=23\/k=24:=af;rcases O with rfl|rfl|rfl|rfl|rfl|rfl|rfl|rfl|rfl|rfl|rfl<;>rfl
   simp-implicitDefEqProofs(disch:=try exact aj)only[bg,bx,aT,reduceAdd,reduceLeDiff,reduceIte,ax,s];refine aO DM ?_;rintro _ _ ⟨rfl,rfl⟩;refine⟨bm _,?_⟩;simp-implicitDefEqProofs(disch:=try exact aj)only[reduceAdd,reduceLeDiff,reduceIte,ax,g3];refine aO v ?_;rintro _ K ⟨rfl,o⟩;refine⟨o.1,?_⟩;have L:=o.get s;simp-implicitDefEqProofs(disch:=try exact aj)only[reduceAdd,reduceLeDiff,reduceIte,ax,L];refine aO (tn (j:=1) rfl af ah.eb (o.get ar) aC) ?_;rintro _ ap ⟨rfl,F⟩;refine⟨F.1,?_⟩;simp-implicitDefEqProofs(disch:=try exact aj)only[reduceAdd,reduceLeDiff,reduceIte,ax,a1];refine aO (fv (dh k+1) rfl (by simp) aQ _ kw (ah.aL (o.trans F)) ((u.trans o).trans F)) ?_
   rintro _ aI ⟨rfl,ai⟩;refine⟨ai.1,?_⟩;have w:ao P .add 9 X (Y (flat (cw (dh k) (.mk b i)))) (Y [32])=D (Y (flat (cw (dh k) (.mk b i))++[32])):=bV (by simp only[List.length_cons,List.length_nil];omega);have A:ao P .add 9 U (Y (flat (cw (dh k) (.mk b i))++[32])) (Y (gZ k))=D (Y (flat (cw (dh k) (.mk b i))++[32]++gZ k)):=bV (by simp only[List.length_append,List.length_cons,List.length_nil];omega);have R:ao P .add 9 X (Y (flat (cw (dh k) (.mk b i))++[32]++gZ k)) (Y [32])=D (Y (flat (cw (dh k) (.mk b i))++[32]++gZ k++[32])):=bV (by simp only[List.length_append,List.length_cons,List.length_nil];omega)
   have aq:ao P .add 9 U (Y (flat (cw (dh k) (.mk b i))++[32]++gZ k++[32])) (Y (flat (cw (dh k+1) (.mk c cs))))=D (Y (flat (cw (dh k) (.mk b i))++[32]++gZ k++[32]++flat (cw (dh k+1) (.mk c cs)))):=bV (by simp only[List.length_append,List.length_cons,List.length_nil];omega);rw[w,dY,A,dY,R,dY,aq,dY];simp-implicitDefEqProofs(disch:=try exact aj)only[reduceAdd,reduceLeDiff,reduceIte,ax,s,L];exact bb.2 ⟨by rw[r1 q,cv,dq,cu,dq];simp,((u.trans o).trans F).trans ai⟩
section
set_option maxRecDepth 100000
noncomputable section
def uQ(G:ay)(ag ar:ad)(H:ae):O:=aI H (G 80 [ag] H) λn a=>j (b7 ag) λe=>j (aH P 79 e 1) λh=>j (aq P a 77 h) λi=>aI a (c0 P a [77,9] i ar) λk c=>j (b7 ag) λl=>j (aH P 79 l 1) λbS=>bd c (aY P c 77 bS k) λd=>bg P .len [9] [ar] d λm=>D (.tuple [m,ad.nilIface],d)
def MC(N:Nat){ag ar:ad}{H:ae}{r:ad×ae}(h:uQ (aE P aA) ag ar H=D r):aE P aA 57 [ag,ar] H=D r:=cS N (S:=λG=>uQ G ag ar H) Tryd.func57 (λ_=>by delta uQ;kernel_rfl) h
def uR(G:ay)(ag ar:ad)(H:ae):O:=aI H (G 80 [ag] H) λba a=>j (b7 ag) λn=>j (aH P 79 n 1) λh=>j (aq P a 77 h) λi=>b1 a (b6 P (a).next 77 1 [(0,ar)]) λk c=>aI c (c0 P c [77,77] i k) λl d=>j (b7 ag) λm=>j (aH P 79 m 1) λbS=>bd d (aY P d 77 bS l) λe=>D (ad.nilIface,e)
def MD(N:Nat){ag ar:ad}{H:ae}{r:ad×ae}(h:uR (aE P aA) ag ar H=D r):aE P aA 58 [ag,ar] H=D r:=cS N (S:=λG=>uR G ag ar H) Tryd.func58 (λ_=>by delta uR;kernel_rfl) h
end
end
section
set_option maxRecDepth 100000
noncomputable section
def qt(G:ay)(N:Nat)(ag:ad)(H:ae):O:=j (b7 ag) λc=>j (aH P 81 c 0) λd=>aI H (G 58 [d,I .u8 10] H) λe a=>D (.tuple [],a)
def NN(G:ay)(N:Nat):∀aa H,bl P G N (o (o (bs Tryd.f29))) (bf Tryd.f29) [] (bf Tryd.f29) aa H=qt G N (aa 0) H:=by
 refine bC (aF _) λaa H=> ?_
 delta qt;kernel_rfl
def sk(G:ay)(N:Nat)(d:ad->ad->ad->ad->ae->O)(ag a:ad)(c bS:ad)(H:ae):O:=j (ao P .lss 3 U bS c) λh=>aU (D h) (j (cl P 50 a bS) λi=>j (aq P H 9 i) λk=>j (b7 ag) λl=>j (aH P 81 l 0) λm=>aI H (G 57 [m,k] H) λo e=>j (ao P .add 3 X bS (I J 1)) λn=>d ag a c n e) (qt G N ag H)
def nt(G:ay)(N:Nat):Nat->ad->ad->ad->ad->ae->O
 |0,_,_,_,_,_=>Z
 |n+1,ag,a,c,bS,H=>sk G N (nt G N n) ag a c bS H
def NM(G:ay)(N:Nat)(c:ad->ad->ad->ad->ae->O):∀aa H,bl P G N (aN (aN (o (aN (o (bs Tryd.f29)))))) (λaa H=>c (aa 0) (aa 14) (aa 15) (aa 16) H) [(0,(λaa H=>qt G N (aa 0) H))] (bf Tryd.f29) aa H=sk G N c (aa 0) (aa 14) (aa 15) (aa 16) H:=by
 refine bC (aF _) λaa H=> ?_
 delta sk;generalize qt G N=a;revert a;refine id ?_;intro a;kernel_rfl
def uB(G:ay)(N:Nat)(ag ar d:ad)(H:ae):O:=aI H (G 54 [Y [32,32],ar] H) λh a=>j (b7 ag) λk=>j (aH P 81 k 0) λe=>aI a (G 57 [e,h] a) λl c=>bg P .len [50] [d] c λi=>nt G N N ag d i (I J 0) c
def Mj(N:Nat){ag ar a:ad}{H:ae}{r:ad×ae}(h:uB (aE P aA) N ag ar a H=D r):aE P aA 29 [ag,ar,a] H=D r:=cS N (S:=λG=>uB G N ag ar a H) Tryd.func29 (λG=>dX ((aM ah ((aM ah (NN G N) ((aM ah ((cX ah ((dW (k:=λm aa H=>nt G N m (aa 0) (aa 14) (aa 15) (aa 16) H) ah (λaa H=>ah) (λm=>NM G N (nt G N m)))))) (aF _))))) (aF _))) (by delta uB;generalize nt G N N=c;revert c;refine id ?_;intro c;kernel_rfl)) h
def qv(G:ay)(N:Nat)(k:ad->ad->ad->ad->ad->ae->O)(ag ar:ad)(h i c:ad)(H:ae):O:=j (ao P .lss 3 U c i) λm=>aU (D m) (j (cl P 71 h c) λn=>j (aq P H 112 n) λo=>cT H [I J 0,Y [],Y [],I J 0,ad.az,ad.az,ad.az,I J 0,I J 0] λe d=>bd d (aY P d 112 e o) λa=>j (aq P a 112 e) λbS=>aI a (G 60 [ag,ar,bS] a) λq l=>j (ao P .add 3 X c (I J 1)) λp=>k ag ar h i p l) (D (.tuple [],H))
def mg(G:ay)(N:Nat):Nat->ad->ad->ad->ad->ad->ae->O
 |0,_,_,_,_,_,_=>Z
 |n+1,ag,ar,c,d,a,H=>qv G N (mg G N n) ag ar c d a H
def NS(G:ay)(N:Nat)(a:ad->ad->ad->ad->ad->ae->O):∀aa H,bl P G N (aN (aN (o (bs Tryd.f31)))) (λaa H=>a (aa 0) (aa 1) (aa 8) (aa 9) (aa 10) H) [(0,(bf Tryd.f31))] (bf Tryd.f31) aa H=qv G N a (aa 0) (aa 1) (aa 8) (aa 9) (aa 10) H:=by
 refine bC (aF _) λaa H=> ?_
 delta qv;kernel_rfl
def uD(G:ay)(N:Nat)(ag ar a:ad)(H:ae):O:=bg P .len [71] [a] H λc=>mg G N N ag ar a c (I J 0) H
def Ml(N:Nat){ag ar a:ad}{H:ae}{r:ad×ae}(h:uD (aE P aA) N ag ar a H=D r):aE P aA 31 [ag,ar,a] H=D r:=cS N (S:=λG=>uD G N ag ar a H) Tryd.func31 (λG=>dX ((aM ah ((cX ah ((dW (k:=λm aa H=>mg G N m (aa 0) (aa 1) (aa 8) (aa 9) (aa 10) H) ah (λaa H=>ah) (λm=>NS G N (mg G N m)))))) (aF _))) (by delta uD;generalize mg G N N=c;revert c;refine id ?_;intro c;kernel_rfl)) h
def o9(G:ay)(ag ar:ad)(H:ae):O:=b1 H (D (.aD (H).next 0 1 1 (D 1),.row U 1 [[Y [125]]])) λd a=>aI a (G 29 [ag,ar,d] a) λe c=>D (.tuple [],c)
def OA(G:ay)(N:Nat):∀aa H,bl P G N (o (o (o (aN (o (o (o (o (o (o (o (o (o (aN (o (o (o (bs Tryd.f60)))))))))))))))))) (bf Tryd.f60) [(0,(bf Tryd.f60))] (bf Tryd.f60) aa H=o9 G (aa 0) (aa 1) H:=by
 refine bC (aF _) λaa H=> ?_
 delta o9;kernel_rfl
def uS(G:ay)(ag ar ah:ad)(H:ae):O:=b1 H (d_ (H).next ah) λe n=>j (aH P 112 e 3) λaR=>j (aq P n 41 aR) λaW=>aI n (G 41 [aW,I J 0] n) λA s=>aI s (G 16 [A] s) λk o=>j (aH P 112 e 3) λp=>j (aq P o 41 p) λq=>aI o (G 41 [q,I J 1] o) λaa y=>aI y (G 16 [aa] y) λab c=>bif ((bh (aq P n 41 p) q&&(bh (aq P s 41 p) q&&(bh (aq P o 41 p) q&&X)))&&X)then(j (aH P 112 e 0) λbS=>j (aq P c 3 bS) λi=>j (ao P .eql 3 X i (I J 1)) λaf=>aU (D af) (j (aH P 112 e 2) λai=>j (aq P c 40 ai) λaj=>aI c (G 20 [aj] c) λak a=>j (aH P 112 e 1) λu=>j (aq P a 9 u) λv=>b1 a (b6 P (a).next 50 5 [(0,(Y [118,97,114,32])),(1,v),(2,(Y [58,32])),(3,ak),(4,(Y [59]))]) λal d=>aI d (G 29 [ag,ar,al] d) λa7 h=>bif ((bh (aq P c 9 u) v&&(bh (aq P a 9 u) v&&X))&&X)then(D (.tuple [],h))else Z) (j (ao P .eql 3 X i (I J 2)) λam=>aU (D am) (j (aH P 112 e 2) λan=>j (aq P c 40 an) λap=>aI c (G 20 [ap] c) λau a=>j (aH P 112 e 1) λw=>j (aq P a 9 w) λx=>b1 a (b6 P (a).next 50 7 [(0,(Y [108,101,116,32])),(1,x),(2,(Y [58,32])),(3,au),(4,(Y [32,61,32])),(5,k),(6,(Y [59]))]) λav d=>aI d (G 29 [ag,ar,av] d) λa8 h=>bif ((bh (aq P c 9 w) x&&(bh (aq P a 9 w) x&&X))&&X)then(D (.tuple [],h))else Z) (j (ao P .eql 3 X i (I J 3)) λaw=>aU (D aw) (j (aH P 112 e 1) λax=>j (aq P c 9 ax) λaA=>b1 c (b6 P (c).next 50 4 [(0,aA),(1,(Y [32,61,32])),(2,k),(3,(Y [59]))]) λaB a=>aI a (G 29 [ag,ar,aB] a) λa9 d=>D (.tuple [],d)) (j (ao P .eql 3 X i (I J 4)) λaC=>aU (D aC) (b1 c (b6 P (c).next 50 4 [(0,k),(1,(Y [32,61,32])),(2,ab),(3,(Y [59]))]) λaE a=>aI a (G 29 [ag,ar,aE] a) λa_ d=>D (.tuple [],d)) (j (ao P .eql 3 X i (I J 5)) λaF=>aU (D aF) (b1 c (b6 P (c).next 50 3 [(0,(Y [105,102,32])),(1,k),(2,(Y [32,123]))]) λaG a=>aI a (G 29 [ag,ar,aG] a) λba d=>j (ao P .add 3 X ar (I J 1)) λaJ=>j (aH P 112 e 4) λaK=>j (aq P d 71 aK) λaL=>aI d (G 31 [ag,aJ,aL] d) λbb h=>j (aH P 112 e 5) λaM=>j (aq P h 71 aM) λaN=>bg P .len [71] [aN] h λaO=>j (ao P .gtr 3 X aO (I J 0)) λaP=>aU (D aP) (b1 h (D (.aD (h).next 0 1 1 (D 1),.row U 1 [[Y [125,32,101,108,115,101,32,123]]])) λaQ m=>aI m (G 29 [ag,ar,aQ] m) λbc l=>j (ao P .add 3 X ar (I J 1)) λaS=>j (aH P 112 e 5) λaT=>j (aq P l 71 aT) λaV=>aI l (G 31 [ag,aS,aV] l) λbd z=>o9 G ag ar z) (o9 G ag ar h)) (j (ao P .eql 3 X i (I J 6)) λaX=>aU (D aX) (b1 c (b6 P (c).next 50 3 [(0,(Y [119,104,105,108,101,32])),(1,k),(2,(Y [32,123]))]) λaY a=>aI a (G 29 [ag,ar,aY] a) λbe d=>j (ao P .add 3 X ar (I J 1)) λaZ=>j (aH P 112 e 4) λa0=>j (aq P d 71 a0) λB=>aI d (G 31 [ag,aZ,B] d) λa1 h=>b1 h (D (.aD (h).next 0 1 1 (D 1),.row U 1 [[Y [125]]])) λE m=>aI m (G 29 [ag,ar,E] m) λa2 l=>D (.tuple [],l)) (j (ao P .eql 3 X i (I J 7)) λF=>aU (D F) (j (aH P 112 e 3) λK=>j (aq P c 41 K) λL=>bg P .len [41] [L] c λM=>j (ao P .eql 3 X M (I J 0)) λN=>aU (D N) (b1 c (D (.aD (c).next 0 1 1 (D 1),.row U 1 [[Y [114,101,116,117,114,110,59]]])) λQ a=>aI a (G 29 [ag,ar,Q] a) λa3 d=>D (.tuple [],d)) (b1 c (b6 P (c).next 50 3 [(0,(Y [114,101,116,117,114,110,32])),(1,k),(2,(Y [59]))]) λR a=>aI a (G 29 [ag,ar,R] a) λa4 d=>D (.tuple [],d))) (j (ao P .eql 3 X i (I J 8)) λS=>aU (D S) (b1 c (b6 P (c).next 50 3 [(0,(Y [112,114,105,110,116,32])),(1,k),(2,(Y [59]))]) λT a=>aI a (G 29 [ag,ar,T] a) λa5 d=>D (.tuple [],d)) (j (ao P .eql 3 X i (I J 9)) λV=>aU (D V) (b1 c (b6 P (c).next 50 2 [(0,k),(1,(Y [59]))]) λW a=>aI a (G 29 [ag,ar,W] a) λa6 d=>D (.tuple [],d)) (D (.tuple [],c)))))))))))else Z
def ME(N:Nat){ag ar a:ad}{H:ae}{r:ad×ae}(h:uS (aE P aA) ag ar a H=D r):aE P aA 60 [ag,ar,a] H=D r:=cS N (S:=λG=>uS G ag ar a H) Tryd.func60 (λG=>dX ((aM ah ((aM ah ((aM ah ((cX ah ((aM ah ((dt ah (aF _) ((aM ah ((dt ah (aF _) ((aM ah ((dt ah (aF _) ((aM ah ((dt ah (aF _) ((aM ah ((dt ah ((aM ah ((aM ah ((aM ah (OA G N) (aF _))) (aF _))) (aF _))) (aF _))) (aF _))))) (aF _))))) (aF _))))) (aF _))))) (aF _))))) (aF _))) (aF _))) (aF _))) (by delta uS;generalize o9 G=c;revert c;refine id ?_;intro c;kernel_rfl)) h
