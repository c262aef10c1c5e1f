/-
  Texts of one proof, laid together: ShF ShG.
-/
import Derived.Test.YtolnciihfbifcaaGreatME
set_option linter.unusedVariables false
set_option linter.unusedSimpArgs false
set_option linter.defProp false
open Option renaming some→D,none→Y
open Bool renaming true→V,false→U
open Go.cV.aa renaming int→I,bool→Z
open Go.IntKind renaming i64→J
namespace Go.Proofs.YtolnciihfbifcaaGreat
open Go.cV
section
set_option maxRecDepth 100000
noncomputable section
def l3(G:ai)(N:Nat)(b d:aa)(H:af):O:=ad (ah P H 39 d) λc=>aF H (aC P H 39 b c) λa=>ad (ah P a 39 b) λr=>D (.tuple [r,I J 0],a)
def ak9(G:ai)(N:Nat):∀C H,aD P G N (ae (ae (ae (ae (ae (ae (ae (ae (ae (ae (aG Tryz.f239))))))))))) (ax Tryz.f239) [] (ax Tryz.f239) C H=l3 G N (C 2) (C 8) H:=by
 refine aI (aj _) λC H=> ?_
 delta l3;kernel_rfl
def m_(G:ai)(N:Nat)(a:aa->aa->aa->aa->aa->aa->af->O)(b d:aa)(e f:aa)(g h:aa)(H:af):O:=ad (al P .add 3 V h (I J 1)) λc=>a b d e f g c H
def ak_(G:ai)(N:Nat)(a:aa->aa->aa->aa->aa->aa->af->O):∀C H,aD P G N (ae (ae (ae (aq (aq (ae (aq (ae (ae (ae (ae (ae (ae (ae (ae (ae (aG Tryz.f239))))))))))))))))) (λC H=>a (C 1) (C 2) (C 8) (C 87) (C 88) (C 89) H) [(10,(λC H=>l3 G N (C 2) (C 8) H))] (ax Tryz.f239) C H=m_ G N a (C 1) (C 2) (C 8) (C 87) (C 88) (C 89) H:=by
 refine aI (aj _) λC H=> ?_
 delta m_;kernel_rfl
def ua(G:ai)(N:Nat)(d:aa->aa->aa->aa->aa->aa->af->O)(f m:aa)(a l:aa)(n o p:aa)(H:af):O:=ad (ak P 39 a 3) λg=>ad (ah P H 30 g) λh=>aK H (bd P (H).next 30 1 [(0,l)]) λi b=>aw b (bx P b [30,30] h i) λj c=>ad (ak P 39 a 3) λk=>aF c (aC P c 30 k j) λe=>m_ G N d f m a n o p e
def ala(G:ai)(N:Nat)(a:aa->aa->aa->aa->aa->aa->af->O):∀C H,aD P G N (ae (ae (ae (aq (aq (ae (ae (aq (aq (ae (aq (ae (ae (ae (ae (ae (ae (ae (ae (ae (aG Tryz.f239))))))))))))))))))))) (λC H=>m_ G N a (C 1) (C 2) (C 8) (C 87) (C 88) (C 89) H) [(11,(λC H=>m_ G N a (C 1) (C 2) (C 8) (C 87) (C 88) (C 89) H)),(10,(λC H=>l3 G N (C 2) (C 8) H))] (ax Tryz.f239) C H=ua G N a (C 1) (C 2) (C 8) (C 17) (C 87) (C 88) (C 89) H:=by
 refine aI (aj _) λC H=> ?_
 delta ua;generalize m_ G N a=b;revert b;refine id ?_;intro b;kernel_rfl
def GO(G:ai)(N:Nat)(p:aa->aa->aa->aa->aa->aa->af->O)(q:aa->aa->aa->aa->aa->aa->aa->aa->aa->aa->af->O)(b l:aa)(f j:aa)(k m:aa)(n o:aa)(i c:aa)(H:af):O:=ad (al P .lss 3 U c i) λs=>ay (D s) (ad (ah P H 181 b) λt=>aw H (G 289 [t,j,c] H) λu a=>ad (ak P 39 f 1) λd=>ad (ah P a 35 d) λe=>aw a (G 288 [e,u] a) λv g=>aK g (bd P (g).next 35 1 [(0,v)]) λw h=>aw h (bx P h [35,35] k w) λx r=>bif ((aJ (ah P H 35 d) e&&(aJ (ah P a 35 d) e&&V))&&V)then(ad (al P .add 3 V c (I J 1)) λy=>q b l f j x m n o i y r)else Y) (ua G N p b l f k m n o H)
def ug(G:ai)(N:Nat)(a:aa->aa->aa->aa->aa->aa->af->O):Nat->aa->aa->aa->aa->aa->aa->aa->aa->aa->aa->af->O
 |0,_,_,_,_,_,_,_,_,_,_,_=>Y
 |n+1,b,g,h,e,f,i,j,k,c,d,H=>GO G N a (ug G N a n) b g h e f i j k c d H
def ak1(G:ai)(N:Nat)(a:aa->aa->aa->aa->aa->aa->af->O)(c:aa->aa->aa->aa->aa->aa->aa->aa->aa->aa->af->O):∀C H,aD P G N (aq (aq (ae (aq (ae (ae (aq (aq (ae (ae (aq (aq (ae (aq (ae (ae (ae (ae (ae (ae (ae (ae (ae (aG Tryz.f239)))))))))))))))))))))))) (λC H=>c (C 1) (C 2) (C 8) (C 16) (C 17) (C 87) (C 88) (C 89) (C 100) (C 101) H) [(12,(λC H=>ua G N a (C 1) (C 2) (C 8) (C 17) (C 87) (C 88) (C 89) H)),(11,(λC H=>m_ G N a (C 1) (C 2) (C 8) (C 87) (C 88) (C 89) H)),(10,(λC H=>l3 G N (C 2) (C 8) H))] (ax Tryz.f239) C H=GO G N a c (C 1) (C 2) (C 8) (C 16) (C 17) (C 87) (C 88) (C 89) (C 100) (C 101) H:=by
 refine aI (aj _) λC H=> ?_
 delta GO;generalize ua G N a=b;revert b;refine id ?_;intro b;kernel_rfl
def GN(G:ai)(N:Nat)(h:aa->aa->aa->aa->aa->aa->af->O)(b c:aa)(d e:aa)(f a:aa)(H:af):O:=ad (al P .lss 3 U a f) λj=>ay (D j) (ad (aH P 30 e a) λk=>ad (ah P H 35 k) λg=>ad (ak P 181 b 1) λl=>ad (ah P H 78 l) λm=>ad (aH P 35 g (I J 0)) λn=>ad (ah P H 3 n) λo=>ad (aH P 78 m o) λp=>ad (ah P H 30 p) λq=>a1 P .len [30] [q] H λi=>ug G N h N b c d g aa.ao e f a i (I J 0) H) (l3 G N c d H)
def uf(G:ai)(N:Nat):Nat->aa->aa->aa->aa->aa->aa->af->O
 |0,_,_,_,_,_,_,_=>Y
 |n+1,a,b,c,d,e,f,H=>GN G N (uf G N n) a b c d e f H
def ak0(G:ai)(N:Nat)(a:aa->aa->aa->aa->aa->aa->af->O):∀C H,aD P G N (aq (aq (ae (aq (ae (ae (ae (ae (ae (ae (ae (ae (ae (aG Tryz.f239)))))))))))))) (λC H=>a (C 1) (C 2) (C 8) (C 87) (C 88) (C 89) H) [(10,(λC H=>l3 G N (C 2) (C 8) H))] (ax Tryz.f239) C H=GN G N a (C 1) (C 2) (C 8) (C 87) (C 88) (C 89) H:=by
 refine aI ((ar j ((ar j ((ar j (ak_ G N a) ((aX j ((ar j ((ar j ((ar j (ala G N a) ((ar j ((aX j ((a_ (k:=λm C H=>ug G N a m (C 1) (C 2) (C 8) (C 16) (C 17) (C 87) (C 88) (C 89) (C 100) (C 101) H) j (λC H=>j) (λm=>ak1 G N a (ug G N a m)))))) (aj _))))) (aj _))) (aj _))))))) (aj _))) (aj _))) λC H=> ?_
 delta GN;generalize l3 G N=b;generalize ug G N a N=c;revert b c;refine id ?_;intro b c;kernel_rfl
def t_(G:ai)(N:Nat)(b c:aa)(a d:aa)(H:af):O:=a1 P .len [30] [a] H λe=>uf G N N b c d a e (I J 0) H
def ak8(G:ai)(N:Nat):∀C H,aD P G N (ae (ae (ae (ae (ae (ae (ae (ae (ae (aG Tryz.f239)))))))))) (ax Tryz.f239) [] (ax Tryz.f239) C H=t_ G N (C 1) (C 2) (C 7) (C 8) H:=by
 refine aI ((ar j (ak9 G N) ((ar j ((aX j ((a_ (k:=λm C H=>uf G N m (C 1) (C 2) (C 8) (C 87) (C 88) (C 89) H) j (λC H=>j) (λm=>ak0 G N (uf G N m)))))) (aj _))))) λC H=> ?_
 delta t_;generalize uf G N N=a;revert a;refine id ?_;intro a;kernel_rfl
def GP(G:ai)(N:Nat)(m:aa->aa->aa->aa->aa->aa->aa->af->O)(h i:aa)(j a:aa)(k l f:aa)(H:af):O:=ad (al P .lss 3 U f l) λo=>ay (D o) (ad (aH P 30 k f) λp=>ad (ah P H 35 p) λq=>ad (ak P 39 a 1) λr=>ad (ah P H 35 r) λs=>aw H (G 288 [s,q] H) λt b=>ad (ak P 39 a 2) λc=>ad (ah P b 35 c) λd=>aK b (bd P (b).next 35 1 [(0,t)]) λu e=>aw e (bx P e [35,35] d u) λv g=>ad (ak P 39 a 2) λw=>aF g (aC P g 35 w v) λn=>bif ((aJ (ah P H 35 c) d&&(aJ (ah P b 35 c) d&&(aJ (ah P e 35 c) d&&V)))&&V)then(ad (al P .add 3 V f (I J 1)) λx=>m h i j a k l x n)else Y) (t_ G N h i j a H)
def uh(G:ai)(N:Nat):Nat->aa->aa->aa->aa->aa->aa->aa->af->O
 |0,_,_,_,_,_,_,_,_=>Y
 |n+1,a,b,c,g,d,e,f,H=>GP G N (uh G N n) a b c g d e f H
def ak2(G:ai)(N:Nat)(b:aa->aa->aa->aa->aa->aa->aa->af->O):∀C H,aD P G N (aq (aq (ae (aq (ae (ae (ae (ae (ae (ae (ae (ae (aG Tryz.f239))))))))))))) (λC H=>b (C 1) (C 2) (C 7) (C 8) (C 71) (C 72) (C 73) H) [(8,(λC H=>t_ G N (C 1) (C 2) (C 7) (C 8) H))] (ax Tryz.f239) C H=GP G N b (C 1) (C 2) (C 7) (C 8) (C 71) (C 72) (C 73) H:=by
 refine aI (aj _) λC H=> ?_
 delta GP;generalize t_ G N=a;revert a;refine id ?_;intro a;kernel_rfl
def m9(G:ai)(N:Nat)(a c:aa)(d g:aa)(H:af):O:=ad (ak P 181 a 0) λe=>ad (ah P H 30 e) λb=>a1 P .len [30] [b] H λf=>uh G N N a c d g b f (I J 0) H
def ak7(G:ai)(N:Nat):∀C H,aD P G N (ae (ae (ae (ae (ae (ae (ae (ae (aG Tryz.f239))))))))) (ax Tryz.f239) [] (ax Tryz.f239) C H=m9 G N (C 1) (C 2) (C 7) (C 8) H:=by
 refine aI ((ar j (ak8 G N) ((ar j ((aX j ((a_ (k:=λm C H=>uh G N m (C 1) (C 2) (C 7) (C 8) (C 71) (C 72) (C 73) H) j (λC H=>j) (λm=>ak2 G N (uh G N m)))))) (aj _))))) λC H=> ?_
 delta m9;generalize uh G N N=a;revert a;refine id ?_;intro a;kernel_rfl
def pc(G:ai)(N:Nat)(a:aa->aa->aa->aa->aa->aa->aa->af->O)(b c:aa)(h i:aa)(d e f:aa)(H:af):O:=ad (al P .add 3 V f (I J 1)) λg=>a b c h i d e g H
def ak5(G:ai)(N:Nat)(a:aa->aa->aa->aa->aa->aa->aa->af->O):∀C H,aD P G N (ae (ae (ae (aq (aq (ae (aq (ae (ae (ae (ae (ae (ae (ae (aG Tryz.f239))))))))))))))) (λC H=>a (C 1) (C 2) (C 7) (C 8) (C 50) (C 51) (C 52) H) [(4,(λC H=>m9 G N (C 1) (C 2) (C 7) (C 8) H))] (ax Tryz.f239) C H=pc G N a (C 1) (C 2) (C 7) (C 8) (C 50) (C 51) (C 52) H:=by
 refine aI (aj _) λC H=> ?_
 delta pc;kernel_rfl
def GK(G:ai)(N:Nat)(l:aa->aa->aa->aa->aa->aa->aa->af->O)(m:aa->aa->aa->aa->aa->aa->aa->aa->aa->aa->aa->af->O)(c d:aa)(j b:aa)(k e:aa)(f g:aa)(h i a:aa)(H:af):O:=ad (al P .lss 3 U a i) λo=>ay (D o) (ad (aH P 35 h a) λp=>ad (ah P H 3 p) λq=>ad (ak P 39 b 1) λr=>ad (ah P H 35 r) λs=>ad (aH P 35 s q) λt=>aF H (aC P H 3 t k) λn=>ad (al P .add 3 V a (I J 1)) λu=>m c d j b k e f g h i u n) (pc G N l c d j b e f g H)
def uc(G:ai)(N:Nat)(a:aa->aa->aa->aa->aa->aa->aa->af->O):Nat->aa->aa->aa->aa->aa->aa->aa->aa->aa->aa->aa->af->O
 |0,_,_,_,_,_,_,_,_,_,_,_,_=>Y
 |n+1,b,c,j,k,l,d,e,f,g,h,i,H=>GK G N a (uc G N a n) b c j k l d e f g h i H
def akX(G:ai)(N:Nat)(a:aa->aa->aa->aa->aa->aa->aa->af->O)(c:aa->aa->aa->aa->aa->aa->aa->aa->aa->aa->aa->af->O):∀C H,aD P G N (aq (aq (ae (ae (aq (aq (ae (ae (aq (aq (ae (aq (ae (ae (ae (ae (ae (ae (ae (aG Tryz.f239)))))))))))))))))))) (λC H=>c (C 1) (C 2) (C 7) (C 8) (C 9) (C 50) (C 51) (C 52) (C 57) (C 58) (C 59) H) [(6,(λC H=>pc G N a (C 1) (C 2) (C 7) (C 8) (C 50) (C 51) (C 52) H)),(5,(λC H=>pc G N a (C 1) (C 2) (C 7) (C 8) (C 50) (C 51) (C 52) H)),(4,(λC H=>m9 G N (C 1) (C 2) (C 7) (C 8) H))] (ax Tryz.f239) C H=GK G N a c (C 1) (C 2) (C 7) (C 8) (C 9) (C 50) (C 51) (C 52) (C 57) (C 58) (C 59) H:=by
 refine aI (aj _) λC H=> ?_
 delta GK;generalize pc G N a=b;revert b;refine id ?_;intro b;kernel_rfl
def GJ(G:ai)(N:Nat)(i:aa->aa->aa->aa->aa->aa->aa->af->O)(b c:aa)(g h:aa)(d e a:aa)(H:af):O:=ad (al P .lss 3 U a e) λj=>ay (D j) (ad (aH P 30 d a) λk=>ad (ah P H 35 k) λf=>a1 P .len [35] [f] H λl=>uc G N i N b c g h a d e a f l (I J 0) H) (m9 G N b c g h H)
def ub(G:ai)(N:Nat):Nat->aa->aa->aa->aa->aa->aa->aa->af->O
 |0,_,_,_,_,_,_,_,_=>Y
 |n+1,a,b,f,g,c,d,e,H=>GJ G N (ub G N n) a b f g c d e H
def akW(G:ai)(N:Nat)(a:aa->aa->aa->aa->aa->aa->aa->af->O):∀C H,aD P G N (aq (aq (ae (aq (ae (ae (ae (ae (ae (ae (ae (aG Tryz.f239)))))))))))) (λC H=>a (C 1) (C 2) (C 7) (C 8) (C 50) (C 51) (C 52) H) [(4,(λC H=>m9 G N (C 1) (C 2) (C 7) (C 8) H))] (ax Tryz.f239) C H=GJ G N a (C 1) (C 2) (C 7) (C 8) (C 50) (C 51) (C 52) H:=by
 refine aI ((ar j ((ar j ((ar j (ak5 G N a) ((aX j ((ar j ((ar j ((aX j ((a_ (k:=λm C H=>uc G N a m (C 1) (C 2) (C 7) (C 8) (C 9) (C 50) (C 51) (C 52) (C 57) (C 58) (C 59) H) j (λC H=>j) (λm=>akX G N a (uc G N a m)))))) (aj _))) (aj _))))))) (aj _))) (aj _))) λC H=> ?_
 delta GJ;generalize m9 G N=b;generalize uc G N a N=c;revert b c;refine id ?_;intro b c;kernel_rfl
def tZ(G:ai)(N:Nat)(e i j:aa)(H:af):O:=aw H (G 287 [j] H) λb a=>a1 P .len [30] [b] a λk=>ad (ak P 181 e 1) λl=>ad (ah P a 78 l) λm=>a1 P .len [78] [m] a λf=>aK a (fP (gu P ⟨.leaf,(a).next⟩ 35 f f) (a).next) λn h=>ad (bo P 39 [(0,k),(1,n)]) λo=>ba h [I J 0,aa.ao,aa.ao,aa.ao] λg c=>aF c (aC P c 39 g o) λd=>a1 P .len [30] [b] d λp=>ub G N N e i b g b p (I J 0) d
def ak6(G:ai)(N:Nat):∀C H,aD P G N (ae (ae (ae (ae (ae (aG Tryz.f239)))))) (ax Tryz.f239) [] (ax Tryz.f239) C H=tZ G N (C 1) (C 2) (C 4) H:=by
 refine aI ((ar j ((ar j ((ar j (ak7 G N) ((ar j ((aX j ((a_ (k:=λm C H=>ub G N m (C 1) (C 2) (C 7) (C 8) (C 50) (C 51) (C 52) H) j (λC H=>j) (λm=>akW G N (ub G N m)))))) (aj _))))) (aj _))) (aj _))) λC H=> ?_
 delta tZ;generalize ub G N N=a;revert a;refine id ?_;intro a;kernel_rfl
def GL(G:ai)(N:Nat)(e:aa->aa->aa->af->O)(a d b:aa)(H:af):O:=ad (ah P H 181 a) λf=>aw H (G 286 [b,f] H) λg c=>ay (D g) (e a d b c) (tZ G N a d b c)
def ud(G:ai)(N:Nat):Nat->aa->aa->aa->af->O
 |0,_,_,_,_=>Y
 |n+1,a,b,c,H=>GL G N (ud G N n) a b c H
def akY(G:ai)(N:Nat)(b:aa->aa->aa->af->O):∀C H,aD P G N (aq (aq (aq (ae (ae (ae (ae (aG Tryz.f239)))))))) (λC H=>b (C 1) (C 2) (C 4) H) [(2,(λC H=>tZ G N (C 1) (C 2) (C 4) H))] (ax Tryz.f239) C H=GL G N b (C 1) (C 2) (C 4) H:=by
 refine aI (aj _) λC H=> ?_
 delta GL;generalize tZ G N=a;revert a;refine id ?_;intro a;kernel_rfl
def tY(G:ai)(N:Nat)(a b c:aa)(H:af):O:=ud G N N a b c H
def ak4(G:ai)(N:Nat):∀C H,aD P G N (ae (ae (ae (ae (aG Tryz.f239))))) (ax Tryz.f239) [] (ax Tryz.f239) C H=tY G N (C 1) (C 2) (C 4) H:=by
 refine aI ((ar j (ak6 G N) ((aX j ((a_ (k:=λm C H=>ud G N m (C 1) (C 2) (C 4) H) j (λC H=>j) (λm=>akY G N (ud G N m)))))))) λC H=> ?_
 delta tY;generalize ud G N N=a;revert a;refine id ?_;intro a;kernel_rfl
def GM(G:ai)(N:Nat)(g:aa->aa->aa->aa->aa->aa->af->O)(c d:aa)(b e:aa)(f a:aa)(H:af):O:=ad (al P .lss 3 U a f) λi=>ay (D i) (ad (aH P 30 e a) λj=>ad (ah P H 35 j) λk=>aw H (G 285 [b,k] H) λm h=>ad (al P .add 3 V a (I J 1)) λl=>g c d b e f l h) (tY G N c d b H)
def ue(G:ai)(N:Nat):Nat->aa->aa->aa->aa->aa->aa->af->O
 |0,_,_,_,_,_,_,_=>Y
 |n+1,a,b,f,c,d,e,H=>GM G N (ue G N n) a b f c d e H
def akZ(G:ai)(N:Nat)(b:aa->aa->aa->aa->aa->aa->af->O):∀C H,aD P G N (aq (aq (ae (aq (ae (ae (ae (aG Tryz.f239)))))))) (λC H=>b (C 1) (C 2) (C 4) (C 28) (C 29) (C 30) H) [(0,(λC H=>tY G N (C 1) (C 2) (C 4) H))] (ax Tryz.f239) C H=GM G N b (C 1) (C 2) (C 4) (C 28) (C 29) (C 30) H:=by
 refine aI (aj _) λC H=> ?_
 delta GM;generalize tY G N=a;revert a;refine id ?_;intro a;kernel_rfl
def Bi(G:ai)(N:Nat)(h:aa)(H:af):O:=aK H (bl (H).next h) λc g=>ba g [I J 0,aa.ao,aa.ao,aa.ao] λe d=>ad (ah P d 181 c) λi=>aw d (G 283 [i] d) λj a=>ad (bu .not j) λk=>ay (D k) (aF a (aC P a 39 e (.agg [I J 0,aa.ao,aa.ao,aa.ao])) λb=>ad (ah P b 39 e) λr=>D (.tuple [r,I J 5],b)) (ad (ak P 181 c 1) λl=>ad (ah P a 78 l) λm=>a1 P .len [78] [m] a λn=>aw a (G 284 [n] a) λo b=>ad (ak P 181 c 0) λp=>ad (ah P b 30 p) λf=>a1 P .len [30] [f] b λq=>ue G N N c e o f q (I J 0) b)
def ak3(G:ai)(N:Nat)(b:aa)(H:af):aB Tryz.f239 G N (aO [b]) H=Bi G N b H:=by
 refine aT (A:=aB Tryz.f239 G N) ((ar j ((ar j ((ar j ((ar j (ak4 G N) ((ar j ((aX j ((a_ (k:=λm C H=>ue G N m (C 1) (C 2) (C 4) (C 28) (C 29) (C 30) H) j (λC H=>j) (λm=>akZ G N (ue G N m)))))) (aj _))))) (aj _))) (aj _))) (aj _))) ?_;delta Bi;generalize ue G N N=a;revert a;refine id ?_;intro a;kernel_rfl
def vm(G:ai)(N:Nat)(H:af):O:=some ((Z V),H)
def ani(G:ai)(N:Nat):∀C H,aD P G N (ae (ae (ae (ae (aG Tryz.f283))))) (ax Tryz.f283) [] (ax Tryz.f283) C H=vm G N H:=by
 refine aI (aj _) λC H=> ?_
 delta vm;kernel_rfl
def Hh(G:ai)(N:Nat)(m:aa->aa->aa->aa->aa->af->O)(h k:aa)(i j d:aa)(H:af):O:=ad (al P .lss 3 U d j) λs=>ay (D s) (ad (aH P 78 i d) λt=>ad (ah P H 30 t) λe=>a1 P .len [30] [e] H λu=>ad (ak P 181 h 1) λv=>ad (ah P H 78 v) λw=>ad (aH P 78 w (I J 0)) λx=>ad (ah P H 30 x) λy=>a1 P .len [30] [y] H λz=>ad (al P .neq 3 U u z) λb=>au b U H (aV e) λl f=>au b U f (λq=>bE (a6 P .empty .len [30] [l]) (a6 P f .len [30] [l]) q) λA n=>au b U n (aE (al P .gtr 3 V A (I J 8))) λB o=>ad (aU b (D (Z V)) (D B)) λa=>au a U o (aV e) λC p=>au a U p (aV k) λE c=>au a U c (λq=>bq c (G 317 [C,E] c) q) λF r=>au a U r (aE (bu .not F)) λK g=>ad (aU a (D (Z V)) (D K)) λL=>ay (D L) (D ((Z U),g)) (ad (al P .add 3 V d (I J 1)) λM=>m h k i j M g)) (vm G N H)
def vn(G:ai)(N:Nat):Nat->aa->aa->aa->aa->aa->af->O
 |0,_,_,_,_,_,_=>Y
 |n+1,a,e,b,c,d,H=>Hh G N (vn G N n) a e b c d H
def ang(G:ai)(N:Nat)(b:aa->aa->aa->aa->aa->af->O):∀C H,aD P G N (aq (aq (ae (aq (ae (ae (ae (aG Tryz.f283)))))))) (λC H=>b (C 1) (C 3) (C 19) (C 20) (C 21) H) [(0,(λC H=>vm G N H))] (ax Tryz.f283) C H=Hh G N b (C 1) (C 3) (C 19) (C 20) (C 21) H:=by
 refine aI (aj _) λC H=> ?_
 delta Hh;generalize vm G N=a;revert a;refine id ?_;intro a;kernel_rfl
def B1(G:ai)(N:Nat)(k:aa)(H:af):O:=aK H (bl (H).next k) λc d=>ad (ak P 181 c 1) λu=>ad (ah P d 78 u) λv=>a1 P .len [78] [v] d λf=>ad (al P .gtr 3 V f (I J 60)) λa=>au a U d (aE (ak P 181 c 0)) λl g=>au a U g (qr (ah P g 30 l)) λm i=>au a U i (aV f) λn e=>au a U e (λq=>bq e (G 317 [m,n] e) q) λo j=>au a U j (aE (bu .not o)) λp b=>ad (aU a (D (Z V)) (D p)) λr=>ay (D r) (D ((Z U),b)) (ad (ak P 181 c 1) λs=>ad (ah P b 78 s) λh=>a1 P .len [78] [h] b λt=>vn G N N c f h t (I J 0) b)
def anh(G:ai)(N:Nat)(b:aa)(H:af):aB Tryz.f283 G N (aO [b]) H=B1 G N b H:=by
 refine aT (A:=aB Tryz.f283 G N) ((ar j ((ar j ((ar j ((ar j (ani G N) ((ar j ((aX j ((a_ (k:=λm C H=>vn G N m (C 1) (C 3) (C 19) (C 20) (C 21) H) j (λC H=>j) (λm=>ang G N (vn G N m)))))) (aj _))))) (aj _))) (aj _))) (aj _))) ?_;delta B1;generalize vn G N N=a;revert a;refine id ?_;intro a;kernel_rfl
def vo(G:ai)(N:Nat)(a:aa)(H:af):O:=some (a,H)
def anl(G:ai)(N:Nat):∀C H,aD P G N (ae (ae (ae (aG Tryz.f284)))) (ax Tryz.f284) [] (ax Tryz.f284) C H=vo G N (C 3) H:=by
 refine aI (aj _) λC H=> ?_
 delta vo;kernel_rfl
def Hi(G:ai)(N:Nat)(d:aa->aa->aa->af->O)(b c a:aa)(H:af):O:=ad (al P .lss 3 U a c) λf=>ay (D f) (ad (aL b) λg=>ad (ak P 363 g 0) λh=>ad (ah P H 35 h) λi=>ad (aH P 35 i a) λj=>aF H (aC P H 3 j a) λe=>ad (al P .add 3 V a (I J 1)) λk=>d b c k e) (vo G N b H)
def vp(G:ai)(N:Nat):Nat->aa->aa->aa->af->O
 |0,_,_,_,_=>Y
 |n+1,c,a,b,H=>Hi G N (vp G N n) c a b H
def anj(G:ai)(N:Nat)(b:aa->aa->aa->af->O):∀C H,aD P G N (aq (aq (ae (aq (ae (ae (aG Tryz.f284))))))) (λC H=>b (C 3) (C 15) (C 16) H) [(0,(λC H=>vo G N (C 3) H))] (ax Tryz.f284) C H=Hi G N b (C 3) (C 15) (C 16) H:=by
 refine aI (aj _) λC H=> ?_
 delta Hi;generalize vo G N=a;revert a;refine id ?_;intro a;kernel_rfl
def B2(G:ai)(N:Nat)(e:aa)(H:af):O:=a1 P .max [3,3] [e,I J 0] H λj=>a1 P .min [3,3] [j,I J 10000] H λd=>aK H (fP (gu P ⟨.leaf,(H).next⟩ 35 d d) (H).next) λk b=>ad (bo P 363 [(0,k)]) λl=>aK b (bl (b).next l) λc a=>ad (aL c) λf=>ad (ak P 363 f 0) λg=>ad (ah P a 35 g) λh=>a1 P .len [35] [h] a λi=>vp G N N c i (I J 0) a
def ank(G:ai)(N:Nat)(b:aa)(H:af):aB Tryz.f284 G N (aO [b]) H=B2 G N b H:=by
 refine aT (A:=aB Tryz.f284 G N) ((ar j ((ar j ((ar j (anl G N) ((ar j ((aX j ((a_ (k:=λm C H=>vp G N m (C 3) (C 15) (C 16) H) j (λC H=>j) (λm=>anj G N (vp G N m)))))) (aj _))))) (aj _))) (aj _))) ?_;delta B2;generalize vp G N N=a;revert a;refine id ?_;intro a;kernel_rfl
def pj(G:ai)(N:Nat)(a:aa)(H:af):O:=some (a,H)
def ano(G:ai)(N:Nat):∀C H,aD P G N (ae (ae (ae (aG Tryz.f285)))) (ax Tryz.f285) [] (ax Tryz.f285) C H=pj G N (C 5) H:=by
 refine aI (aj _) λC H=> ?_
 delta pj;kernel_rfl
def vq(G:ai)(N:Nat)(a:aa->aa->aa->aa->aa->aa->af->O)(b c:aa)(f g:aa)(h d:aa)(H:af):O:=ad (al P .add 3 V d (I J 1)) λe=>a b c f g h e H
def anp(G:ai)(N:Nat)(a:aa->aa->aa->aa->aa->aa->af->O):∀C H,aD P G N (ae (ae (ae (aq (aq (ae (aq (ae (ae (aG Tryz.f285)))))))))) (λC H=>a (C 0) (C 1) (C 5) (C 8) (C 9) (C 10) H) [(0,(λC H=>pj G N (C 5) H))] (ax Tryz.f285) C H=vq G N a (C 0) (C 1) (C 5) (C 8) (C 9) (C 10) H:=by
 refine aI (aj _) λC H=> ?_
 delta vq;kernel_rfl
def Hj(G:ai)(N:Nat)(f:aa->aa->aa->aa->aa->aa->af->O)(b c:aa)(h d:aa)(e a:aa)(H:af):O:=ad (al P .lss 3 U a e) λi=>ay (D i) (ad (aH P 35 d a) λj=>ad (ah P H 3 j) λk=>ad (aH P 35 c (I J 0)) λl=>ad (ah P H 3 l) λm=>aw H (G 318 [b,m,k] H) λn g=>ay (D n) (vq G N f b c (Z V) d e a g) (vq G N f b c h d e a g)) (pj G N h H)
def vr(G:ai)(N:Nat):Nat->aa->aa->aa->aa->aa->aa->af->O
 |0,_,_,_,_,_,_,_=>Y
 |n+1,a,b,d,e,f,c,H=>Hj G N (vr G N n) a b d e f c H
def anm(G:ai)(N:Nat)(a:aa->aa->aa->aa->aa->aa->af->O):∀C H,aD P G N (aq (aq (ae (aq (ae (ae (aG Tryz.f285))))))) (λC H=>a (C 0) (C 1) (C 5) (C 8) (C 9) (C 10) H) [(0,(λC H=>pj G N (C 5) H))] (ax Tryz.f285) C H=Hj G N a (C 0) (C 1) (C 5) (C 8) (C 9) (C 10) H:=by
 refine aI ((ar j ((ar j ((ar j (anp G N a) (aj _))) (aj _))) (aj _))) λC H=> ?_
 delta Hj;generalize pj G N=b;generalize vq G N a=c;revert b c;refine id ?_;intro b c;kernel_rfl
def B3(G:ai)(N:Nat)(b a:aa)(H:af):O:=a1 P .len [35] [a] H λc=>vr G N N b a (Z U) a c (I J 0) H
def ann(G:ai)(N:Nat)(b:aa)(c:aa)(H:af):aB Tryz.f285 G N (aO [b,c]) H=B3 G N b c H:=by
 refine aT (A:=aB Tryz.f285 G N) ((ar j ((ar j ((ar j (ano G N) ((ar j ((aX j ((a_ (k:=λm C H=>vr G N m (C 0) (C 1) (C 5) (C 8) (C 9) (C 10) H) j (λC H=>j) (λm=>anm G N (vr G N m)))))) (aj _))))) (aj _))) (aj _))) ?_;delta B3;generalize vr G N N=a;revert a;refine id ?_;intro a;kernel_rfl
def l7(G:ai)(N:Nat)(a:aa)(H:af):O:=some (a,H)
def ant(G:ai)(N:Nat):∀C H,aD P G N (ae (ae (ae (aG Tryz.f286)))) (ax Tryz.f286) [] (ax Tryz.f286) C H=l7 G N (C 5) H:=by
 refine aI (aj _) λC H=> ?_
 delta l7;kernel_rfl
def l8(G:ai)(N:Nat)(a:aa->aa->aa->aa->aa->aa->af->O)(b f:aa)(h c:aa)(d e:aa)(H:af):O:=ad (al P .add 3 V e (I J 1)) λg=>a b f h c d g H
def anu(G:ai)(N:Nat)(a:aa->aa->aa->aa->aa->aa->af->O):∀C H,aD P G N (ae (ae (ae (aq (aq (ae (aq (ae (ae (aG Tryz.f286)))))))))) (λC H=>a (C 0) (C 3) (C 5) (C 10) (C 11) (C 12) H) [(0,(λC H=>l7 G N (C 5) H))] (ax Tryz.f286) C H=l8 G N a (C 0) (C 3) (C 5) (C 10) (C 11) (C 12) H:=by
 refine aI (aj _) λC H=> ?_
 delta l8;kernel_rfl
def vs(G:ai)(N:Nat)(l:aa->aa->aa->aa->aa->aa->af->O)(a:aa->aa->aa->aa->aa->aa->aa->aa->aa->af->O)(b h:aa)(j k:aa)(c d:aa)(e f g:aa)(H:af):O:=ad (al P .add 3 V g (I J 1)) λi=>a b h j k c d e f i H
def anv(G:ai)(N:Nat)(a:aa->aa->aa->aa->aa->aa->af->O)(b:aa->aa->aa->aa->aa->aa->aa->aa->aa->af->O):∀C H,aD P G N (ae (ae (ae (aq (aq (ae (ae (aq (aq (ae (ae (aq (aq (ae (aq (ae (ae (aG Tryz.f286)))))))))))))))))) (λC H=>b (C 0) (C 3) (C 5) (C 7) (C 10) (C 11) (C 12) (C 23) (C 24) H) [(2,(λC H=>l8 G N a (C 0) (C 3) (C 5) (C 10) (C 11) (C 12) H)),(1,(λC H=>l8 G N a (C 0) (C 3) (C 5) (C 10) (C 11) (C 12) H)),(0,(λC H=>l7 G N (C 5) H))] (ax Tryz.f286) C H=vs G N a b (C 0) (C 3) (C 5) (C 7) (C 10) (C 11) (C 12) (C 23) (C 24) H:=by
 refine aI (aj _) λC H=> ?_
 delta vs;kernel_rfl
def Hl(G:ai)(N:Nat)(d:aa->aa->aa->aa->aa->aa->af->O)(j:aa->aa->aa->aa->aa->aa->aa->aa->aa->af->O)(a c:aa)(m i:aa)(e f:aa)(g h b:aa)(H:af):O:=ad (al P .lss 3 U b h) λn=>ay (D n) (ad (ah P H 181 c) λo=>aw H (G 289 [o,i,b] H) λp k=>aw k (G 285 [a,p] k) λq l=>ay (D q) (vs G N d j a c (Z V) i e f g h b l) (vs G N d j a c m i e f g h b l)) (l8 G N d a c m e f g H)
def vu(G:ai)(N:Nat)(a:aa->aa->aa->aa->aa->aa->af->O):Nat->aa->aa->aa->aa->aa->aa->aa->aa->aa->af->O
 |0,_,_,_,_,_,_,_,_,_,_=>Y
 |n+1,b,h,i,j,c,d,e,f,g,H=>Hl G N a (vu G N a n) b h i j c d e f g H
def anr(G:ai)(N:Nat)(a:aa->aa->aa->aa->aa->aa->af->O)(b:aa->aa->aa->aa->aa->aa->aa->aa->aa->af->O):∀C H,aD P G N (aq (aq (ae (ae (aq (aq (ae (ae (aq (aq (ae (aq (ae (ae (aG Tryz.f286))))))))))))))) (λC H=>b (C 0) (C 3) (C 5) (C 7) (C 10) (C 11) (C 12) (C 23) (C 24) H) [(2,(λC H=>l8 G N a (C 0) (C 3) (C 5) (C 10) (C 11) (C 12) H)),(1,(λC H=>l8 G N a (C 0) (C 3) (C 5) (C 10) (C 11) (C 12) H)),(0,(λC H=>l7 G N (C 5) H))] (ax Tryz.f286) C H=Hl G N a b (C 0) (C 3) (C 5) (C 7) (C 10) (C 11) (C 12) (C 23) (C 24) H:=by
 refine aI ((ar j ((ar j ((ar j (anv G N a b) (aj _))) (aj _))) (aj _))) λC H=> ?_
 delta Hl;generalize l8 G N a=c;generalize vs G N a b=d;revert c d;refine id ?_;intro c d;kernel_rfl
def Hk(G:ai)(N:Nat)(g:aa->aa->aa->aa->aa->aa->af->O)(h e:aa)(f b:aa)(c a:aa)(H:af):O:=ad (al P .lss 3 U a c) λi=>ay (D i) (ad (aH P 30 b a) λj=>ad (ah P H 35 j) λd=>ad (ak P 181 e 1) λk=>ad (ah P H 78 k) λl=>ad (aH P 35 d (I J 0)) λm=>ad (ah P H 3 m) λn=>ad (aH P 78 l n) λo=>ad (ah P H 30 o) λp=>a1 P .len [30] [p] H λq=>vu G N g N h e f d b c a q (I J 0) H) (l7 G N f H)
def vt(G:ai)(N:Nat):Nat->aa->aa->aa->aa->aa->aa->af->O
 |0,_,_,_,_,_,_,_=>Y
 |n+1,a,e,f,b,c,d,H=>Hk G N (vt G N n) a e f b c d H
def anq(G:ai)(N:Nat)(a:aa->aa->aa->aa->aa->aa->af->O):∀C H,aD P G N (aq (aq (ae (aq (ae (ae (aG Tryz.f286))))))) (λC H=>a (C 0) (C 3) (C 5) (C 10) (C 11) (C 12) H) [(0,(λC H=>l7 G N (C 5) H))] (ax Tryz.f286) C H=Hk G N a (C 0) (C 3) (C 5) (C 10) (C 11) (C 12) H:=by
 refine aI ((ar j ((ar j ((ar j (anu G N a) ((aX j ((ar j ((ar j ((aX j ((a_ (k:=λm C H=>vu G N a m (C 0) (C 3) (C 5) (C 7) (C 10) (C 11) (C 12) (C 23) (C 24) H) j (λC H=>j) (λm=>anr G N a (vu G N a m)))))) (aj _))) (aj _))))))) (aj _))) (aj _))) λC H=> ?_
 delta Hk;generalize l7 G N=b;generalize vu G N a N=c;revert b c;refine id ?_;intro b c;kernel_rfl
def B4(G:ai)(N:Nat)(c e:aa)(H:af):O:=aK H (bl (H).next e) λg a=>aw a (G 287 [c] a) λd b=>a1 P .len [30] [d] b λf=>vt G N N c g (Z U) d f (I J 0) b
def ans(G:ai)(N:Nat)(b:aa)(c:aa)(H:af):aB Tryz.f286 G N (aO [b,c]) H=B4 G N b c H:=by
 refine aT (A:=aB Tryz.f286 G N) ((ar j ((ar j ((ar j (ant G N) ((ar j ((aX j ((a_ (k:=λm C H=>vt G N m (C 0) (C 3) (C 5) (C 10) (C 11) (C 12) H) j (λC H=>j) (λm=>anq G N (vt G N m)))))) (aj _))))) (aj _))) (aj _))) ?_;delta B4;generalize vt G N N=a;revert a;refine id ?_;intro a;kernel_rfl
def ng(G:ai)(N:Nat)(a:aa)(H:af):O:=some (a,H)
def anz(G:ai)(N:Nat):∀C H,aD P G N (ae (ae (ae (ae (ae (aG Tryz.f287)))))) (ax Tryz.f287) [] (ax Tryz.f287) C H=ng G N (C 3) H:=by
 refine aI (aj _) λC H=> ?_
 delta ng;kernel_rfl
def pk(G:ai)(N:Nat)(a:aa->aa->aa->aa->aa->af->O)(b e:aa)(f c d:aa)(H:af):O:=ad (al P .add 3 V d (I J 1)) λg=>a b e f c g H
def anA(G:ai)(N:Nat)(a:aa->aa->aa->aa->aa->af->O):∀C H,aD P G N (ae (ae (ae (aq (aq (ae (aq (ae (ae (ae (ae (aG Tryz.f287)))))))))))) (λC H=>a (C 0) (C 3) (C 4) (C 14) (C 15) H) [(0,(λC H=>ng G N (C 3) H))] (ax Tryz.f287) C H=pk G N a (C 0) (C 3) (C 4) (C 14) (C 15) H:=by
 refine aI (aj _) λC H=> ?_
 delta pk;kernel_rfl
def vv(G:ai)(N:Nat)(j:aa->aa->aa->aa->aa->af->O)(l f:aa)(a r:aa)(b m n:aa)(H:af):O:=ad (iG P H 364 a b U) λg=>ad (aH P 30 f g) λh=>ad (ah P H 35 h) λi=>aK H (bd P (H).next 35 1 [(0,r)]) λo c=>aw c (bx P c [35,35] i o) λp d=>ad (iG P d 364 a b U) λe=>ad (aH P 30 f e) λq=>aF d (aC P d 35 q p) λk=>bif ((aJ (iG P H 364 a b U) g&&(aJ (iG P c 364 a b U) g&&V))&&((aJ (ah P H 35 h) i&&(aJ (ah P c 35 h) i&&V))&&((aJ (iG P H 364 a b U) e&&(aJ (iG P c 364 a b U) e&&(aJ (iG P d 364 a b U) e&&V)))&&V)))then(pk G N j l f a m n k)else Y
def anB(G:ai)(N:Nat)(a:aa->aa->aa->aa->aa->af->O):∀C H,aD P G N (ae (ae (ae (aq (aq (ae (ae (aq (aq (ae (aq (ae (ae (ae (ae (aG Tryz.f287)))))))))))))))) (λC H=>pk G N a (C 0) (C 3) (C 4) (C 14) (C 15) H) [(1,(λC H=>pk G N a (C 0) (C 3) (C 4) (C 14) (C 15) H)),(0,(λC H=>ng G N (C 3) H))] (ax Tryz.f287) C H=vv G N a (C 0) (C 3) (C 4) (C 5) (C 6) (C 14) (C 15) H:=by
 refine aI (aj _) λC H=> ?_
 delta vv;generalize pk G N a=b;revert b;refine id ?_;intro b;kernel_rfl
def Hm(G:ai)(N:Nat)(h:aa->aa->aa->aa->aa->af->O)(e d:aa)(g f a:aa)(H:af):O:=ad (al P .lss 3 U a f) λl=>ay (D l) (aw H (G 319 [e,a] H) λc b=>ad (al P .eql 3 U c a) λm=>ay (D m) (a1 P .len [30] [d] b λn=>aF b (kf P b 364 g c n) λi=>aK i (D (.ag (i).next 0 1 1 (D 1),.row U 1 [[aa.ao]])) λo j=>aw j (bx P j [30,30] d o) λp k=>vv G N h e p g a c f a k) (vv G N h e d g a c f a b)) (ng G N d H)
def vx(G:ai)(N:Nat):Nat->aa->aa->aa->aa->aa->af->O
 |0,_,_,_,_,_,_=>Y
 |n+1,a,d,e,b,c,H=>Hm G N (vx G N n) a d e b c H
def anw(G:ai)(N:Nat)(a:aa->aa->aa->aa->aa->af->O):∀C H,aD P G N (aq (aq (ae (aq (ae (ae (ae (ae (aG Tryz.f287))))))))) (λC H=>a (C 0) (C 3) (C 4) (C 14) (C 15) H) [(0,(λC H=>ng G N (C 3) H))] (ax Tryz.f287) C H=Hm G N a (C 0) (C 3) (C 4) (C 14) (C 15) H:=by
 refine aI ((ar j ((ar j ((ar j (anA G N a) ((aX j ((ar j ((ar j ((ar j (anB G N a) (aj _))) (aj _))) (aj _))))))) (aj _))) (aj _))) λC H=> ?_
 delta Hm;generalize ng G N=b;generalize vv G N a=c;revert b c;refine id ?_;intro b c;kernel_rfl
def B5(G:ai)(N:Nat)(b:aa)(H:af):O:=ad (al P .eql 334 V b aa.fC) λg=>ay (D g) (D (aa.ao,H)) (aK H (D (.map (H).next,.map [])) λh a=>ad (aL b) λc=>ad (ak P 363 c 0) λd=>ad (ah P a 35 d) λe=>a1 P .len [35] [e] a λf=>vx G N N b aa.ao h f (I J 0) a)
def anx(G:ai)(N:Nat)(b:aa)(H:af):aB Tryz.f287 G N (aO [b]) H=B5 G N b H:=by
 refine aT (A:=aB Tryz.f287 G N) ((ar j ((ar j ((ar j ((ar j ((ar j (anz G N) ((ar j ((aX j ((a_ (k:=λm C H=>vx G N m (C 0) (C 3) (C 4) (C 14) (C 15) H) j (λC H=>j) (λm=>anw G N (vx G N m)))))) (aj _))))) (aj _))) (aj _))) (aj _))) (aj _))) ?_;delta B5;generalize vx G N N=a;revert a;refine id ?_;intro a;kernel_rfl
def B6(G:ai)(b a:aa)(H:af):O:=a1 P .len [35] [a] H λg=>ad (al P .eql 3 V g (I J 0)) λh=>ay (D h) (D ((I J (-1)),H)) (ad (aH P 35 a (I J 0)) λc=>ad (ah P H 3 c) λd=>ad (aH P 35 b d) λe=>ad (ah P H 3 e) λf=>D (f,H))
def anC(G:ai)(N:Nat)(a:aa)(b:aa)(H:af):aB Tryz.f288 G N (aO [a,b]) H=B6 G a b H:=by
 refine aT (A:=aB Tryz.f288 G N) (aj _) ?_;delta B6;kernel_rfl
def vy(G:ai)(N:Nat)(a:aa)(H:af):O:=some (a,H)
def anF(G:ai)(N:Nat):∀C H,aD P G N (ae (ae (ae (aG Tryz.f289)))) (ax Tryz.f289) [] (ax Tryz.f289) C H=vy G N (C 7) H:=by
 refine aI (aj _) λC H=> ?_
 delta vy;kernel_rfl
def Hn(G:ai)(N:Nat)(g:aa->aa->aa->aa->aa->aa->af->O)(d e:aa)(f b:aa)(c a:aa)(H:af):O:=ad (al P .lss 3 U a c) λi=>ay (D i) (ad (aH P 35 b a) λj=>ad (ah P H 3 j) λk=>ad (ak P 181 e 1) λl=>ad (ah P H 78 l) λm=>ad (aH P 78 m k) λn=>ad (ah P H 30 n) λo=>ad (aH P 30 o d) λp=>ad (ah P H 35 p) λq=>aw H (bx P H [35,35] f q) λr h=>ad (al P .add 3 V a (I J 1)) λs=>g d e r b c s h) (vy G N f H)
def vz(G:ai)(N:Nat):Nat->aa->aa->aa->aa->aa->aa->af->O
 |0,_,_,_,_,_,_,_=>Y
 |n+1,d,e,f,a,b,c,H=>Hn G N (vz G N n) d e f a b c H
def anD(G:ai)(N:Nat)(b:aa->aa->aa->aa->aa->aa->af->O):∀C H,aD P G N (aq (aq (ae (aq (ae (ae (aG Tryz.f289))))))) (λC H=>b (C 2) (C 3) (C 7) (C 10) (C 11) (C 12) H) [(0,(λC H=>vy G N (C 7) H))] (ax Tryz.f289) C H=Hn G N b (C 2) (C 3) (C 7) (C 10) (C 11) (C 12) H:=by
 refine aI (aj _) λC H=> ?_
 delta Hn;generalize vy G N=a;revert a;refine id ?_;intro a;kernel_rfl
def B7(G:ai)(N:Nat)(c b e:aa)(H:af):O:=aK H (bl (H).next c) λf a=>a1 P .len [35] [b] a λd=>vz G N N e f aa.ao b d (I J 0) a
def anE(G:ai)(N:Nat)(b:aa)(c:aa)(d:aa)(H:af):aB Tryz.f289 G N (aO [b,c,d]) H=B7 G N b c d H:=by
 refine aT (A:=aB Tryz.f289 G N) ((ar j ((ar j ((ar j (anF G N) ((ar j ((aX j ((a_ (k:=λm C H=>vz G N m (C 2) (C 3) (C 7) (C 10) (C 11) (C 12) H) j (λC H=>j) (λm=>anD G N (vz G N m)))))) (aj _))))) (aj _))) (aj _))) ?_;delta B7;generalize vz G N N=a;revert a;refine id ?_;intro a;kernel_rfl
def vT(G:ai)(N:Nat)(H:af):O:=some ((Z V),H)
def aox(G:ai)(N:Nat):∀C H,aD P G N (ae (ae (aG Tryz.f317))) (ax Tryz.f317) [] (ax Tryz.f317) C H=vT G N H:=by
 refine aI (aj _) λC H=> ?_
 delta vT;kernel_rfl
def Hv(G:ai)(N:Nat)(f:aa->aa->aa->aa->af->O)(c d:aa)(e a:aa)(H:af):O:=ad (al P .lss 3 U a e) λg=>ay (D g) (ad (aH P 30 d a) λh=>ad (ah P H 35 h) λi=>aw H (G 330 [i,(.func (.func 331) [] [c])] H) λj b=>ay (D j) (D ((Z U),b)) (ad (al P .add 3 V a (I J 1)) λk=>f c d e k b)) (vT G N H)
def vU(G:ai)(N:Nat):Nat->aa->aa->aa->aa->af->O
 |0,_,_,_,_,_=>Y
 |n+1,a,b,c,d,H=>Hv G N (vU G N n) a b c d H
def aov(G:ai)(N:Nat)(b:aa->aa->aa->aa->af->O):∀C H,aD P G N (aq (aq (ae (aq (ae (aG Tryz.f317)))))) (λC H=>b (C 3) (C 7) (C 8) (C 9) H) [(0,(λC H=>vT G N H))] (ax Tryz.f317) C H=Hv G N b (C 3) (C 7) (C 8) (C 9) H:=by
 refine aI (aj _) λC H=> ?_
 delta Hv;generalize vT G N=a;revert a;refine id ?_;intro a;kernel_rfl
def Cy(G:ai)(N:Nat)(b c:aa)(H:af):O:=aK H (bl (H).next c) λd a=>a1 P .len [30] [b] a λe=>vU G N N d b e (I J 0) a
def aow(G:ai)(N:Nat)(b:aa)(c:aa)(H:af):aB Tryz.f317 G N (aO [b,c]) H=Cy G N b c H:=by
 refine aT (A:=aB Tryz.f317 G N) ((ar j ((ar j (aox G N) ((ar j ((aX j ((a_ (k:=λm C H=>vU G N m (C 3) (C 7) (C 8) (C 9) H) j (λC H=>j) (λm=>aov G N (vU G N m)))))) (aj _))))) (aj _))) ?_;delta Cy;generalize vU G N N=a;revert a;refine id ?_;intro a;kernel_rfl
def Cz(G:ai)(e n q:aa)(H:af):O:=aw H (G 319 [e,n] H) λd g=>aw g (G 319 [e,q] g) λb h=>ad (al P .lss 3 V d (I J 0)) λf=>au f U h (aV b) λo i=>au f U i (aE (al P .lss 3 V o (I J 0))) λp j=>ad (aU f (D (Z V)) (D p)) λc=>au c U j (aV d) λr k=>au c U k (aV b) λs l=>au c U l (aE (al P .eql 3 U r s)) λt a=>ad (aU c (D (Z V)) (D t)) λu=>ay (D u) (D ((Z U),a)) (ad (aL e) λv=>ad (ak P 363 v 0) λw=>ad (ah P a 35 w) λx=>a1 P .max [3,3] [d,b] a λy=>a1 P .min [3,3] [d,b] a λz=>ad (aH P 35 x y) λA=>aF a (aC P a 3 A z) λm=>D ((Z V),m))
def aoy(G:ai)(N:Nat)(a:aa)(b:aa)(c:aa)(H:af):aB Tryz.f318 G N (aO [a,b,c]) H=Cz G a b c H:=by
 refine aT (A:=aB Tryz.f318 G N) (aj _) ?_;delta Cz;kernel_rfl
def vV(G:ai)(N:Nat)(a:aa)(H:af):O:=some (a,H)
def aoB(G:ai)(N:Nat):∀C H,aD P G N (ae (ae (ae (aG Tryz.f319)))) (ax Tryz.f319) [] (ax Tryz.f319) C H=vV G N (C 1) H:=by
 refine aI (aj _) λC H=> ?_
 delta vV;kernel_rfl
def Hw(G:ai)(N:Nat)(d:aa->aa->af->O)(a b:aa)(H:af):O:=ad (aL a) λe=>ad (ak P 363 e 0) λf=>ad (ah P H 35 f) λg=>ad (aH P 35 g b) λh=>ad (ah P H 3 h) λi=>ad (al P .neq 3 U i b) λj=>ay (D j) (ad (aL a) λk=>ad (ak P 363 k 0) λl=>ad (ah P H 35 l) λm=>ad (aL a) λn=>ad (ak P 363 n 0) λo=>ad (ah P H 35 o) λp=>ad (aL a) λq=>ad (ak P 363 q 0) λr=>ad (ah P H 35 r) λs=>ad (aH P 35 s b) λt=>ad (ah P H 3 t) λu=>ad (aH P 35 p u) λv=>ad (ah P H 3 v) λw=>ad (aH P 35 m b) λx=>aF H (aC P H 3 x w) λc=>ad (aL a) λy=>ad (ak P 363 y 0) λz=>ad (ah P c 35 z) λA=>ad (aH P 35 A b) λB=>ad (ah P c 3 B) λC=>d a C c) (vV G N b H)
def vW(G:ai)(N:Nat):Nat->aa->aa->af->O
 |0,_,_,_=>Y
 |n+1,a,b,H=>Hw G N (vW G N n) a b H
def aoz(G:ai)(N:Nat)(b:aa->aa->af->O):∀C H,aD P G N (aq (aq (aq (ae (ae (aG Tryz.f319)))))) (λC H=>b (C 0) (C 1) H) [(0,(λC H=>vV G N (C 1) H))] (ax Tryz.f319) C H=Hw G N b (C 0) (C 1) H:=by
 refine aI (aj _) λC H=> ?_
 delta Hw;generalize vV G N=a;revert a;refine id ?_;intro a;kernel_rfl
def CA(G:ai)(N:Nat)(b c:aa)(H:af):O:=ad (al P .eql 334 V b aa.fC) λd=>au d U H (aV c) λw i=>au d U i (aE (al P .lss 3 V w (I J 0))) λx j=>ad (aU d (D (Z V)) (D x)) λa=>au a U j (aV c) λo k=>au a U k (aV b) λp l=>au a U l (aE (aL p)) λr m=>au a U m (aE (ak P 363 r 0)) λs e=>au a U e (qr (ah P e 35 s)) λh f=>au a U f (λq=>bE (a6 P .empty .len [35] [h]) (a6 P f .len [35] [h]) q) λt n=>au a U n (aE (al P .geq 3 U o t)) λu g=>ad (aU a (D (Z V)) (D u)) λv=>ay (D v) (D ((I J (-1)),g)) (vW G N N b c g)
def aoA(G:ai)(N:Nat)(b:aa)(c:aa)(H:af):aB Tryz.f319 G N (aO [b,c]) H=CA G N b c H:=by
 refine aT (A:=aB Tryz.f319 G N) ((ar j ((ar j ((ar j (aoB G N) ((aX j ((a_ (k:=λm C H=>vW G N m (C 0) (C 1) H) j (λC H=>j) (λm=>aoz G N (vW G N m)))))))) (aj _))) (aj _))) ?_;delta CA;generalize vW G N N=a;revert a;refine id ?_;intro a;kernel_rfl
def CN(G:ai)(c f:aa)(H:af):O:=ad (al P .lss 3 V c (I J 0)) λa=>au a U H (aV c) λh b=>au a U b (qr (ah P b 3 f)) λi d=>au a U d (aE (al P .geq 3 U h i)) λj e=>ad (aU a (D (Z V)) (D j)) λg=>D (g,e)
def aoZ(G:ai)(N:Nat)(a:aa)(b:aa)(H:af):aB Tryz.f331 G N (aO [a,b]) H=CN G a b H:=by
 refine aT (A:=aB Tryz.f331 G N) (aj _) ?_;delta CN;kernel_rfl
end
end
section
set_option maxRecDepth 100000
noncomputable section
def pT(G:ai)(N:Nat)(a:aa)(H:af):O:=some (a,H)
def aqU(G:ai)(N:Nat):∀C H,aD P G N (ae (ae (ae (ae (ae (aG Tryz.f95)))))) (ax Tryz.f95) [] (ax Tryz.f95) C H=pT G N (C 8) H:=by
 refine aI (aj _) λC H=> ?_
 delta pT;kernel_rfl
def xn(G:ai)(N:Nat)(a:aa->aa->aa->aa->af->O)(f b:aa)(c d:aa)(H:af):O:=ad (al P .add 3 V d (I J 1)) λe=>a f b c e H
def aqV(G:ai)(N:Nat)(a:aa->aa->aa->aa->af->O):∀C H,aD P G N (ae (ae (ae (aq (aq (ae (aq (ae (ae (ae (ae (aG Tryz.f95)))))))))))) (λC H=>a (C 8) (C 49) (C 50) (C 51) H) [(2,(λC H=>pT G N (C 8) H))] (ax Tryz.f95) C H=xn G N a (C 8) (C 49) (C 50) (C 51) H:=by
 refine aI (aj _) λC H=> ?_
 delta xn;kernel_rfl
def H_(G:ai)(N:Nat)(e:aa->aa->aa->aa->af->O)(d b:aa)(c a:aa)(H:af):O:=ad (al P .lss 3 U a c) λh=>ay (D h) (ad (aH P 95 b a) λi=>ad (ah P H 4 i) λj=>ay (D j) (aK H (bd P (H).next 35 1 [(0,a)]) λk f=>aw f (bx P f [35,35] d k) λl g=>xn G N e l b c a g) (xn G N e d b c a H)) (pT G N d H)
def xo(G:ai)(N:Nat):Nat->aa->aa->aa->aa->af->O
 |0,_,_,_,_,_=>Y
 |n+1,d,a,b,c,H=>H_ G N (xo G N n) d a b c H
def aqQ(G:ai)(N:Nat)(a:aa->aa->aa->aa->af->O):∀C H,aD P G N (aq (aq (ae (aq (ae (ae (ae (ae (aG Tryz.f95))))))))) (λC H=>a (C 8) (C 49) (C 50) (C 51) H) [(2,(λC H=>pT G N (C 8) H))] (ax Tryz.f95) C H=H_ G N a (C 8) (C 49) (C 50) (C 51) H:=by
 refine aI ((ar j ((ar j ((ar j (aqV G N a) (aj _))) (aj _))) (aj _))) λC H=> ?_
 delta H_;generalize pT G N=b;generalize xn G N a=c;revert b c;refine id ?_;intro b c;kernel_rfl
def xm(G:ai)(N:Nat)(a:aa)(H:af):O:=a1 P .len [95] [a] H λb=>xo G N N aa.ao a b (I J 0) H
def aqT(G:ai)(N:Nat):∀C H,aD P G N (ae (ae (ae (aG Tryz.f95)))) (ax Tryz.f95) [] (ax Tryz.f95) C H=xm G N (C 5) H:=by
 refine aI ((ar j ((ar j (aqU G N) ((ar j ((aX j ((a_ (k:=λm C H=>xo G N m (C 8) (C 49) (C 50) (C 51) H) j (λC H=>j) (λm=>aqQ G N (xo G N m)))))) (aj _))))) (aj _))) λC H=> ?_
 delta xm;generalize xo G N N=a;revert a;refine id ?_;intro a;kernel_rfl
def Ia(G:ai)(N:Nat)(h:aa->aa->aa->af->O)(d b c:aa)(H:af):O:=a1 P .len [35] [c] H λp=>ad (al P .gtr 3 V p (I J 0)) λq=>ay (D q) (a1 P .len [35] [c] H λr=>ad (al P .sub 3 V r (I J 1)) λs=>ad (aH P 35 c s) λt=>ad (ah P H 3 t) λe=>a1 P .len [35] [c] H λu=>ad (al P .sub 3 V u (I J 1)) λv=>ad (fK P 35 c Y (D v) Y) λj=>aw H (G 158 [d,e] H) λa k=>au a V k (aV b) λw l=>au a V l (aV e) λx m=>au a V m (aE (aH P 95 w x)) λy i=>au a V i (qr (ah P i 4 y)) λz n=>au a V n (aE (bu .not z)) λA f=>ad (aU a (D A) (D (Z U))) λB=>ay (D B) (ad (aH P 95 b e) λC=>aF f (aC P f 4 C (Z V)) λg=>ad (aH P 30 d e) λE=>ad (ah P g 35 E) λF=>aw g (bx P g [35,35] j F) λK o=>h d b K o) (h d b j f)) (xm G N b H)
def xp(G:ai)(N:Nat):Nat->aa->aa->aa->af->O
 |0,_,_,_,_=>Y
 |n+1,a,b,c,H=>Ia G N (xp G N n) a b c H
def aqR(G:ai)(N:Nat)(b:aa->aa->aa->af->O):∀C H,aD P G N (aq (aq (ae (aq (ae (ae (aG Tryz.f95))))))) (λC H=>b (C 0) (C 5) (C 6) H) [(0,(λC H=>xm G N (C 5) H))] (ax Tryz.f95) C H=Ia G N b (C 0) (C 5) (C 6) H:=by
 refine aI (aj _) λC H=> ?_
 delta Ia;generalize xm G N=a;revert a;refine id ?_;intro a;kernel_rfl
def pS(G:ai)(N:Nat)(b e:aa)(H:af):O:=a1 P .len [30] [b] H λc=>aK H (fP (gu P ⟨.leaf,(H).next⟩ 95 c c) (H).next) λf a=>aw a (G 104 [e] a) λg d=>xp G N N b f g d
def aqS(G:ai)(N:Nat)(b:aa)(c:aa)(H:af):aB Tryz.f95 G N (aO [b,c]) H=pS G N b c H:=by
 refine aT (A:=aB Tryz.f95 G N) ((ar j ((ar j ((ar j (aqT G N) ((ar j ((aX j ((a_ (k:=λm C H=>xp G N m (C 0) (C 5) (C 6) H) j (λC H=>j) (λm=>aqR G N (xp G N m)))))) (aj _))))) (aj _))) (aj _))) ?_;delta pS;generalize xp G N N=a;revert a;refine id ?_;intro a;kernel_rfl
def Ac(G:ai)(h c:aa)(H:af):O:=ad (al P .geq 3 V c (I J 0)) λa=>au a V H (aV c) λl e=>au a V e (aV h) λd b=>au a V b (λq=>bE (a6 P .empty .len [30] [d]) (a6 P b .len [30] [d]) q) λi f=>au a V f (aE (al P .lss 3 U l i)) λj g=>ad (aU a (D j) (D (Z U))) λk=>D (k,g)
def aib(G:ai)(N:Nat)(a:aa)(b:aa)(H:af):aB Tryz.f158 G N (aO [a,b]) H=Ac G a b H:=by
 refine aT (A:=aB Tryz.f158 G N) (aj _) ?_;delta Ac;kernel_rfl
