/-
  Texts of one proof, laid together: ShO.
-/
import Derived.Test.YtolnciihfbifcaaGreatME
set_option linter.unusedVariables false
set_option linter.unusedSimpArgs false
set_option linter.defProp false
open Option renaming some→D,none→Y
open Bool renaming true→V,false→U
open Go.cV.aa renaming int→I,bool→Z
open Go.IntKind renaming i64→J
namespace Go.Proofs.YtolnciihfbifcaaGreat
open Go.cV
set_option maxRecDepth 100000
noncomputable section
def xe(G:ai)(N:Nat)(H:af):O:=some ((Z V),H)
def aqH(G:ai)(N:Nat):∀C H,aD P G N (ae (ae (ae (aG Tryz.f92)))) (ax Tryz.f92) [] (ax Tryz.f92) C H=xe G N H:=by
 refine aI (aj _) λC H=> ?_
 delta xe;kernel_rfl
def H6(G:ai)(N:Nat)(d:aa->aa->aa->af->O)(b c a:aa)(H:af):O:=a1 P .len [35] [b] H λe=>ad (al P .lss 3 U a e) λf=>ay (D f) (ad (aH P 35 b a) λh=>ad (ah P H 3 h) λi=>ad (aH P 35 c a) λj=>ad (ah P H 3 j) λk=>ad (al P .neq 3 U i k) λl=>ay (D l) (D ((Z U),H)) (ad (al P .add 3 V a (I J 1)) λg=>d b c g H)) (xe G N H)
def xf(G:ai)(N:Nat):Nat->aa->aa->aa->af->O
 |0,_,_,_,_=>Y
 |n+1,a,b,c,H=>H6 G N (xf G N n) a b c H
def aqF(G:ai)(N:Nat)(b:aa->aa->aa->af->O):∀C H,aD P G N (aq (aq (ae (aq (ae (ae (aG Tryz.f92))))))) (λC H=>b (C 0) (C 1) (C 5) H) [(0,(λC H=>xe G N H))] (ax Tryz.f92) C H=H6 G N b (C 0) (C 1) (C 5) H:=by
 refine aI (aj _) λC H=> ?_
 delta H6;generalize xe G N=a;revert a;refine id ?_;intro a;kernel_rfl
def pQ(G:ai)(N:Nat)(a b:aa)(H:af):O:=a1 P .len [35] [a] H λd=>a1 P .len [35] [b] H λe=>ad (al P .neq 3 U d e) λc=>ay (D c) (D ((Z U),H)) (xf G N N a b (I J 0) H)
def aqG(G:ai)(N:Nat)(b:aa)(c:aa)(H:af):aB Tryz.f92 G N (aO [b,c]) H=pQ G N b c H:=by
 refine aT (A:=aB Tryz.f92 G N) ((ar j ((ar j ((ar j (aqH G N) ((ar j ((aX j ((a_ (k:=λm C H=>xf G N m (C 0) (C 1) (C 5) H) j (λC H=>j) (λm=>aqF G N (xf G N m)))))) (aj _))))) (aj _))) (aj _))) ?_;delta pQ;generalize xf G N N=a;revert a;refine id ?_;intro a;kernel_rfl
