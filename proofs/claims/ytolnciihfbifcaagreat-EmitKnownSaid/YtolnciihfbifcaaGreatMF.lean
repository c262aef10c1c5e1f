/-
  Texts of one proof, laid together: ShA.
-/
import Derived.Test.YtolnciihfbifcaaGreatME
set_option linter.unusedVariables false
set_option linter.unusedSimpArgs false
set_option linter.defProp false
open Option renaming some→D,none→Y
open Bool renaming true→V,false→U
open Go.cV.aa renaming int→I,str→X,bool→Z
open Go.IntKind renaming i64→J
namespace Go.Proofs.YtolnciihfbifcaaGreat
open Go.cV
set_option maxRecDepth 100000
noncomputable section
def oS(G:ai)(b:aa)(H:af):O:=ad (al P .eql 35 V b aa.ao) λd=>ay (D d) (D (aa.ao,H)) (aK H (D (.ag (H).next 0 0 1 (D 0),.row U 1 [])) λe a=>aw a (bx P a [35,35] e b) λf c=>D (f,c))
def aga(G:ai)(N:Nat)(a:aa)(H:af):aB Tryz.f104 G N (aO [a]) H=oS G a H:=by
 refine aT (A:=aB Tryz.f104 G N) (aj _) ?_;delta oS;kernel_rfl
def ti(G:ai)(N:Nat)(a:aa)(H:af):O:=some (a,H)
def ajE(G:ai)(N:Nat):∀C H,aD P G N (ae (ae (ae (ae (ae (aG Tryz.f198)))))) (ax Tryz.f198) [] (ax Tryz.f198) C H=ti G N (C 6) H:=by
 refine aI (aj _) λC H=> ?_
 delta ti;kernel_rfl
def Gr(G:ai)(N:Nat)(e:aa->aa->aa->aa->af->O)(d b:aa)(c a:aa)(H:af):O:=ad (al P .lss 3 U a c) λg=>ay (D g) (ad (aH P 300 b a) λh=>ad (ah P H 178 h) λi=>aw H (bx P H [178,178] d i) λj f=>ad (al P .add 3 V a (I J 1)) λk=>e j b c k f) (ti G N d H)
def tk(G:ai)(N:Nat):Nat->aa->aa->aa->aa->af->O
 |0,_,_,_,_,_=>Y
 |n+1,d,a,b,c,H=>Gr G N (tk G N n) d a b c H
def ajA(G:ai)(N:Nat)(b:aa->aa->aa->aa->af->O):∀C H,aD P G N (aq (aq (ae (aq (ae (ae (ae (ae (aG Tryz.f198))))))))) (λC H=>b (C 6) (C 25) (C 26) (C 27) H) [(2,(λC H=>ti G N (C 6) H))] (ax Tryz.f198) C H=Gr G N b (C 6) (C 25) (C 26) (C 27) H:=by
 refine aI (aj _) λC H=> ?_
 delta Gr;generalize ti G N=a;revert a;refine id ?_;intro a;kernel_rfl
def o9(G:ai)(N:Nat)(b e:aa)(H:af):O:=aw H (G 240 [aa.ao,e] H) λc a=>a1 P .len [300] [b] a λd=>tk G N N c b d (I J 0) a
def ajD(G:ai)(N:Nat):∀C H,aD P G N (ae (ae (ae (aG Tryz.f198)))) (ax Tryz.f198) [] (ax Tryz.f198) C H=o9 G N (C 0) (C 3) H:=by
 refine aI ((ar j ((ar j (ajE G N) ((ar j ((aX j ((a_ (k:=λm C H=>tk G N m (C 6) (C 25) (C 26) (C 27) H) j (λC H=>j) (λm=>ajA G N (tk G N m)))))) (aj _))))) (aj _))) λC H=> ?_
 delta o9;generalize tk G N N=a;revert a;refine id ?_;intro a;kernel_rfl
def tj(G:ai)(N:Nat)(a:aa->aa->aa->aa->aa->af->O)(b f:aa)(g c d:aa)(H:af):O:=ad (al P .add 3 V d (I J 1)) λe=>a b f g c e H
def ajF(G:ai)(N:Nat)(a:aa->aa->aa->aa->aa->af->O):∀C H,aD P G N (ae (ae (ae (aq (aq (ae (aq (ae (ae (aG Tryz.f198)))))))))) (λC H=>a (C 0) (C 3) (C 9) (C 10) (C 11) H) [(0,(λC H=>o9 G N (C 0) (C 3) H))] (ax Tryz.f198) C H=tj G N a (C 0) (C 3) (C 9) (C 10) (C 11) H:=by
 refine aI (aj _) λC H=> ?_
 delta tj;kernel_rfl
def Gs(G:ai)(N:Nat)(f:aa->aa->aa->aa->aa->af->O)(b g:aa)(e c a:aa)(H:af):O:=ad (al P .lss 3 U a c) λh=>ay (D h) (ad (aH P 300 e a) λi=>ad (ah P H 178 i) λj=>a1 P .len [178] [j] H λk=>ad (al P .add 3 U g k) λd=>ad (al P .lss 3 V d (I J 0)) λl=>ay (D l) (ad (jF P 9 (X [108,101,110,32,111,117,116,32,111,102,32,114,97,110,103,101])) λm=>ad ((Y:Option aa)) λy=>tj G N f b d e c a H) (tj G N f b d e c a H)) (o9 G N b g H)
def tl(G:ai)(N:Nat):Nat->aa->aa->aa->aa->aa->af->O
 |0,_,_,_,_,_,_=>Y
 |n+1,a,d,e,b,c,H=>Gs G N (tl G N n) a d e b c H
def ajB(G:ai)(N:Nat)(a:aa->aa->aa->aa->aa->af->O):∀C H,aD P G N (aq (aq (ae (aq (ae (ae (aG Tryz.f198))))))) (λC H=>a (C 0) (C 3) (C 9) (C 10) (C 11) H) [(0,(λC H=>o9 G N (C 0) (C 3) H))] (ax Tryz.f198) C H=Gs G N a (C 0) (C 3) (C 9) (C 10) (C 11) H:=by
 refine aI ((ar j ((ar j ((ar j (ajF G N a) (aj _))) (aj _))) (aj _))) λC H=> ?_
 delta Gs;generalize o9 G N=b;generalize tj G N a=c;revert b c;refine id ?_;intro b c;kernel_rfl
def AI(G:ai)(N:Nat)(a:aa)(H:af):O:=a1 P .len [300] [a] H λb=>tl G N N a (I J 0) a b (I J 0) H
def ajC(G:ai)(N:Nat)(b:aa)(H:af):aB Tryz.f198 G N (aO [b]) H=AI G N b H:=by
 refine aT (A:=aB Tryz.f198 G N) ((ar j ((ar j ((ar j (ajD G N) ((ar j ((aX j ((a_ (k:=λm C H=>tl G N m (C 0) (C 3) (C 9) (C 10) (C 11) H) j (λC H=>j) (λm=>ajB G N (tl G N m)))))) (aj _))))) (aj _))) (aj _))) ?_;delta AI;generalize tl G N N=a;revert a;refine id ?_;intro a;kernel_rfl
def tp(G:ai)(N:Nat)(H:af):O:=some ((Z V),H)
def ajM(G:ai)(N:Nat):∀C H,aD P G N (ae (ae (ae (aG Tryz.f200)))) (ax Tryz.f200) [] (ax Tryz.f200) C H=tp G N H:=by
 refine aI (aj _) λC H=> ?_
 delta tp;kernel_rfl
def Gu(G:ai)(N:Nat)(e:aa->aa->aa->aa->af->O)(b c:aa)(d a:aa)(H:af):O:=ad (al P .lss 3 U a d) λf=>ay (D f) (ad (aH P 35 b a) λg=>ad (ah P H 3 g) λh=>ad (aH P 35 c a) λi=>ad (ah P H 3 i) λj=>ad (al P .neq 3 U h j) λk=>ay (D k) (D ((Z U),H)) (ad (al P .add 3 V a (I J 1)) λl=>e b c d l H)) (tp G N H)
def tq(G:ai)(N:Nat):Nat->aa->aa->aa->aa->af->O
 |0,_,_,_,_,_=>Y
 |n+1,a,b,c,d,H=>Gu G N (tq G N n) a b c d H
def ajK(G:ai)(N:Nat)(b:aa->aa->aa->aa->af->O):∀C H,aD P G N (aq (aq (ae (aq (ae (ae (aG Tryz.f200))))))) (λC H=>b (C 0) (C 1) (C 12) (C 13) H) [(0,(λC H=>tp G N H))] (ax Tryz.f200) C H=Gu G N b (C 0) (C 1) (C 12) (C 13) H:=by
 refine aI (aj _) λC H=> ?_
 delta Gu;generalize tp G N=a;revert a;refine id ?_;intro a;kernel_rfl
def AK(G:ai)(N:Nat)(a b:aa)(H:af):O:=a1 P .len [35] [a] H λe=>a1 P .len [35] [b] H λf=>ad (al P .neq 3 U e f) λc=>ay (D c) (D ((Z U),H)) (a1 P .len [35] [a] H λd=>tq G N N a b d (I J 0) H)
def ajL(G:ai)(N:Nat)(b:aa)(c:aa)(H:af):aB Tryz.f200 G N (aO [b,c]) H=AK G N b c H:=by
 refine aT (A:=aB Tryz.f200 G N) ((ar j ((ar j ((ar j (ajM G N) ((ar j ((aX j ((a_ (k:=λm C H=>tq G N m (C 0) (C 1) (C 12) (C 13) H) j (λC H=>j) (λm=>ajK G N (tq G N m)))))) (aj _))))) (aj _))) (aj _))) ?_;delta AK;generalize tq G N N=a;revert a;refine id ?_;intro a;kernel_rfl
def oU(G:ai)(b c:aa)(H:af):O:=aw H (G 139 [b,c] H) λd a=>ad (al P .geq 3 V d (I J 0)) λe=>D (e,a)
def agc(G:ai)(N:Nat)(a:aa)(b:aa)(H:af):aB Tryz.f106 G N (aO [a,b]) H=oU G a b H:=by
 refine aT (A:=aB Tryz.f106 G N) (aj _) ?_;delta oU;kernel_rfl
def AP(G:ai)(b c:aa)(H:af):O:=aw H (G 241 [b,c] H) λd a=>ad (al P .geq 3 V d (I J 0)) λe=>D (e,a)
def ajT(G:ai)(N:Nat)(a:aa)(b:aa)(H:af):aB Tryz.f205 G N (aO [a,b]) H=AP G a b H:=by
 refine aT (A:=aB Tryz.f205 G N) (aj _) ?_;delta AP;kernel_rfl
def uj(G:ai)(a:aa)(H:af):O:=some (a,H)
def ald(G:ai)(N:Nat):∀C H,aD P G N (ae (ae (ae (aG Tryz.f240)))) (ax Tryz.f240) [] (ax Tryz.f240) C H=uj G (C 0) H:=by
 refine aI (aj _) λC H=> ?_
 delta uj;kernel_rfl
def ui(G:ai)(a d:aa)(H:af):O:=a1 P .cap [178] [a] H λe=>a1 P .len [178] [a] H λf=>ad (al P .sub 3 U e f) λg=>ad (al P .sub 3 U d g) λc=>ad (al P .gtr 3 V c (I J 0)) λh=>ay (D h) (a1 P .cap [178] [a] H λi=>ad (fK P 178 a Y (D i) Y) λj=>aw H (bx P H [178,3] j c) λk b=>a1 P .len [178] [a] b λl=>ad (fK P 178 k Y (D l) Y) λm=>uj G m b) (uj G a H)
def alc(G:ai)(N:Nat):∀C H,aD P G N (ae (ae (aG Tryz.f240))) (ax Tryz.f240) [] (ax Tryz.f240) C H=ui G (C 0) (C 1) H:=by
 refine aI ((ar j (ald G N) (aj _))) λC H=> ?_
 delta ui;generalize uj G=a;revert a;refine id ?_;intro a;kernel_rfl
def Bj(G:ai)(b a:aa)(H:af):O:=ad (al P .lss 3 V a (I J 0)) λc=>ay (D c) (ad (jF P 9 (X [99,97,110,110,111,116,32,98,101,32,110,101,103,97,116,105,118,101])) λd=>ad ((Y:Option aa)) λy=>ui G b a H) (ui G b a H)
def alb(G:ai)(N:Nat)(b:aa)(c:aa)(H:af):aB Tryz.f240 G N (aO [b,c]) H=Bj G b c H:=by
 refine aT (A:=aB Tryz.f240 G N) ((ar j ((ar j (alc G N) (aj _))) (aj _))) ?_;delta Bj;generalize ui G=a;revert a;refine id ?_;intro a;kernel_rfl
def sc(G:ai)(N:Nat)(H:af):O:=some ((I J (-1)),H)
def ahP(G:ai)(N:Nat):∀C H,aD P G N (ae (ae (aG Tryz.f139))) (ax Tryz.f139) [] (ax Tryz.f139) C H=sc G N H:=by
 refine aI (aj _) λC H=> ?_
 delta sc;kernel_rfl
def F0(G:ai)(N:Nat)(e:aa->aa->aa->aa->af->O)(b c:aa)(d a:aa)(H:af):O:=ad (al P .lss 3 U a d) λj=>ay (D j) (ad (aH P 35 b a) λf=>ad (ah P H 3 f) λg=>ad (al P .eql 3 U c g) λh=>ay (D h) (D (a,H)) (ad (al P .add 3 V a (I J 1)) λi=>e b c d i H)) (sc G N H)
def sd(G:ai)(N:Nat):Nat->aa->aa->aa->aa->af->O
 |0,_,_,_,_,_=>Y
 |n+1,a,b,c,d,H=>F0 G N (sd G N n) a b c d H
def ahN(G:ai)(N:Nat)(b:aa->aa->aa->aa->af->O):∀C H,aD P G N (aq (aq (ae (aq (ae (aG Tryz.f139)))))) (λC H=>b (C 0) (C 1) (C 7) (C 8) H) [(0,(λC H=>sc G N H))] (ax Tryz.f139) C H=F0 G N b (C 0) (C 1) (C 7) (C 8) H:=by
 refine aI (aj _) λC H=> ?_
 delta F0;generalize sc G N=a;revert a;refine id ?_;intro a;kernel_rfl
def z2(G:ai)(N:Nat)(a b:aa)(H:af):O:=a1 P .len [35] [a] H λc=>sd G N N a b c (I J 0) H
def ahO(G:ai)(N:Nat)(b:aa)(c:aa)(H:af):aB Tryz.f139 G N (aO [b,c]) H=z2 G N b c H:=by
 refine aT (A:=aB Tryz.f139 G N) ((ar j ((ar j (ahP G N) ((ar j ((aX j ((a_ (k:=λm C H=>sd G N m (C 0) (C 1) (C 7) (C 8) H) j (λC H=>j) (λm=>ahN G N (sd G N m)))))) (aj _))))) (aj _))) ?_;delta z2;generalize sd G N N=a;revert a;refine id ?_;intro a;kernel_rfl
def uk(G:ai)(N:Nat)(H:af):O:=some ((I J (-1)),H)
def alg(G:ai)(N:Nat):∀C H,aD P G N (ae (ae (aG Tryz.f241))) (ax Tryz.f241) [] (ax Tryz.f241) C H=uk G N H:=by
 refine aI (aj _) λC H=> ?_
 delta uk;kernel_rfl
def GQ(G:ai)(N:Nat)(f:aa->aa->aa->aa->af->O)(c d:aa)(e a:aa)(H:af):O:=ad (al P .lss 3 U a e) λk=>ay (D k) (ad (aH P 30 c a) λg=>ad (ah P H 35 g) λh=>xu G H d [h] λi b=>ay (D i) (D (a,b)) (ad (al P .add 3 V a (I J 1)) λj=>f c d e j b)) (uk G N H)
def um(G:ai)(N:Nat):Nat->aa->aa->aa->aa->af->O
 |0,_,_,_,_,_=>Y
 |n+1,a,b,c,d,H=>GQ G N (um G N n) a b c d H
def ale(G:ai)(N:Nat)(b:aa->aa->aa->aa->af->O):∀C H,aD P G N (aq (aq (ae (aq (ae (aG Tryz.f241)))))) (λC H=>b (C 0) (C 1) (C 7) (C 8) H) [(0,(λC H=>uk G N H))] (ax Tryz.f241) C H=GQ G N b (C 0) (C 1) (C 7) (C 8) H:=by
 refine aI (aj _) λC H=> ?_
 delta GQ;generalize uk G N=a;revert a;refine id ?_;intro a;kernel_rfl
def Bk(G:ai)(N:Nat)(a b:aa)(H:af):O:=a1 P .len [30] [a] H λc=>um G N N a b c (I J 0) H
def alf(G:ai)(N:Nat)(b:aa)(c:aa)(H:af):aB Tryz.f241 G N (aO [b,c]) H=Bk G N b c H:=by
 refine aT (A:=aB Tryz.f241 G N) ((ar j ((ar j (alg G N) ((ar j ((aX j ((a_ (k:=λm C H=>um G N m (C 0) (C 1) (C 7) (C 8) H) j (λC H=>j) (λm=>ale G N (um G N m)))))) (aj _))))) (aj _))) ?_;delta Bk;generalize um G N N=a;revert a;refine id ?_;intro a;kernel_rfl
def BT(G:ai)(b c:aa)(H:af):O:=aw H (G 310 [b,c] H) λd a=>ad (al P .geq 3 V d (I J 0)) λe=>D (e,a)
def amY(G:ai)(N:Nat)(a:aa)(b:aa)(H:af):aB Tryz.f275 G N (aO [a,b]) H=BT G a b H:=by
 refine aT (A:=aB Tryz.f275 G N) (aj _) ?_;delta BT;kernel_rfl
def vP(G:ai)(N:Nat)(H:af):O:=some ((I J (-1)),H)
def aom(G:ai)(N:Nat):∀C H,aD P G N (ae (ae (aG Tryz.f310))) (ax Tryz.f310) [] (ax Tryz.f310) C H=vP G N H:=by
 refine aI (aj _) λC H=> ?_
 delta vP;kernel_rfl
def Ht(G:ai)(N:Nat)(f:aa->aa->aa->aa->af->O)(c d:aa)(e a:aa)(H:af):O:=ad (al P .lss 3 U a e) λk=>ay (D k) (ad (aH P 178 c a) λg=>ad (ah P H 187 g) λh=>xu G H d [h] λi b=>ay (D i) (D (a,b)) (ad (al P .add 3 V a (I J 1)) λj=>f c d e j b)) (vP G N H)
def vQ(G:ai)(N:Nat):Nat->aa->aa->aa->aa->af->O
 |0,_,_,_,_,_=>Y
 |n+1,a,b,c,d,H=>Ht G N (vQ G N n) a b c d H
def aok(G:ai)(N:Nat)(b:aa->aa->aa->aa->af->O):∀C H,aD P G N (aq (aq (ae (aq (ae (aG Tryz.f310)))))) (λC H=>b (C 0) (C 1) (C 7) (C 8) H) [(0,(λC H=>vP G N H))] (ax Tryz.f310) C H=Ht G N b (C 0) (C 1) (C 7) (C 8) H:=by
 refine aI (aj _) λC H=> ?_
 delta Ht;generalize vP G N=a;revert a;refine id ?_;intro a;kernel_rfl
def Cr(G:ai)(N:Nat)(a b:aa)(H:af):O:=a1 P .len [178] [a] H λc=>vQ G N N a b c (I J 0) H
def aol(G:ai)(N:Nat)(b:aa)(c:aa)(H:af):aB Tryz.f310 G N (aO [b,c]) H=Cr G N b c H:=by
 refine aT (A:=aB Tryz.f310 G N) ((ar j ((ar j (aom G N) ((ar j ((aX j ((a_ (k:=λm C H=>vQ G N m (C 0) (C 1) (C 7) (C 8) H) j (λC H=>j) (λm=>aok G N (vQ G N m)))))) (aj _))))) (aj _))) ?_;delta Cr;generalize vQ G N N=a;revert a;refine id ?_;intro a;kernel_rfl
def CM(G:ai)(b c:aa)(H:af):O:=aw H (G 162 [b,c] H) λd a=>ad (al P .geq 3 V d (I J 0)) λe=>D (e,a)
def aoY(G:ai)(N:Nat)(a:aa)(b:aa)(H:af):aB Tryz.f330 G N (aO [a,b]) H=CM G a b H:=by
 refine aT (A:=aB Tryz.f330 G N) (aj _) ?_;delta CM;kernel_rfl
def su(G:ai)(N:Nat)(H:af):O:=some ((I J (-1)),H)
def aif(G:ai)(N:Nat):∀C H,aD P G N (ae (ae (aG Tryz.f162))) (ax Tryz.f162) [] (ax Tryz.f162) C H=su G N H:=by
 refine aI (aj _) λC H=> ?_
 delta su;kernel_rfl
def F8(G:ai)(N:Nat)(f:aa->aa->aa->aa->af->O)(c d:aa)(e a:aa)(H:af):O:=ad (al P .lss 3 U a e) λk=>ay (D k) (ad (aH P 35 c a) λg=>ad (ah P H 3 g) λh=>xu G H d [h] λi b=>ay (D i) (D (a,b)) (ad (al P .add 3 V a (I J 1)) λj=>f c d e j b)) (su G N H)
def sv(G:ai)(N:Nat):Nat->aa->aa->aa->aa->af->O
 |0,_,_,_,_,_=>Y
 |n+1,a,b,c,d,H=>F8 G N (sv G N n) a b c d H
def aid(G:ai)(N:Nat)(b:aa->aa->aa->aa->af->O):∀C H,aD P G N (aq (aq (ae (aq (ae (aG Tryz.f162)))))) (λC H=>b (C 0) (C 1) (C 7) (C 8) H) [(0,(λC H=>su G N H))] (ax Tryz.f162) C H=F8 G N b (C 0) (C 1) (C 7) (C 8) H:=by
 refine aI (aj _) λC H=> ?_
 delta F8;generalize su G N=a;revert a;refine id ?_;intro a;kernel_rfl
def Ae(G:ai)(N:Nat)(a b:aa)(H:af):O:=a1 P .len [35] [a] H λc=>sv G N N a b c (I J 0) H
def aie(G:ai)(N:Nat)(b:aa)(c:aa)(H:af):aB Tryz.f162 G N (aO [b,c]) H=Ae G N b c H:=by
 refine aT (A:=aB Tryz.f162 G N) ((ar j ((ar j (aif G N) ((ar j ((aX j ((a_ (k:=λm C H=>sv G N m (C 0) (C 1) (C 7) (C 8) H) j (λC H=>j) (λm=>aid G N (sv G N m)))))) (aj _))))) (aj _))) ?_;delta Ae;generalize sv G N N=a;revert a;refine id ?_;intro a;kernel_rfl
def oX(G:ai)(d:aa)(H:af):O:=aw H (G 163 [d] H) λb a=>aw a (G 164 [b] a) λe c=>D (b,c)
def agl(G:ai)(N:Nat)(a:aa)(H:af):aB Tryz.f108 G N (aO [a]) H=oX G a H:=by
 refine aT (A:=aB Tryz.f108 G N) (aj _) ?_;delta oX;kernel_rfl
def oY(G:ai)(b:aa)(H:af):O:=aK H (bl (H).next b) λc a=>D ((.func (.func 165) [] [c]),a)
def agm(G:ai)(N:Nat)(a:aa)(H:af):aB Tryz.f109 G N (aO [a]) H=oY G a H:=by
 refine aT (A:=aB Tryz.f109 G N) (aj _) ?_;delta oY;kernel_rfl
def F9(G:ai)(N:Nat)(f:aa->aa->aa->aa->af->O)(c d:aa)(e a:aa)(H:af):O:=ad (al P .lss 3 U a e) λk=>ay (D k) (ad (aH P 35 d a) λl=>ad (ah P H 3 l) λg=>xu G H c [g] λh b=>ad (bu .not h) λi=>ay (D i) (D (.tuple [],b)) (ad (al P .add 3 V a (I J 1)) λj=>f c d e j b)) (D (.tuple [],H))
def sw(G:ai)(N:Nat):Nat->aa->aa->aa->aa->af->O
 |0,_,_,_,_,_=>Y
 |n+1,a,b,c,d,H=>F9 G N (sw G N n) a b c d H
def aii(G:ai)(N:Nat)(a:aa->aa->aa->aa->af->O):∀C H,aD P G N (aq (aq (ae (aG Tryz.f165)))) (λC H=>a (C 0) (C 5) (C 6) (C 7) H) [(0,(ax Tryz.f165))] (ax Tryz.f165) C H=F9 G N a (C 0) (C 5) (C 6) (C 7) H:=by
 refine aI (aj _) λC H=> ?_
 delta F9;kernel_rfl
def Ag(G:ai)(N:Nat)(b c:aa)(H:af):O:=ad (ah P H 35 c) λa=>a1 P .len [35] [a] H λd=>sw G N N b a d (I J 0) H
def aij(G:ai)(N:Nat)(b:aa)(c:aa)(H:af):aB Tryz.f165 G N (aO [b,c]) H=Ag G N b c H:=by
 refine aT (A:=aB Tryz.f165 G N) ((ar j ((aX j ((a_ (k:=λm C H=>sw G N m (C 0) (C 5) (C 6) (C 7) H) j (λC H=>j) (λm=>aii G N (sw G N m)))))) (aj _))) ?_;delta Ag;generalize sw G N N=a;revert a;refine id ?_;intro a;kernel_rfl
