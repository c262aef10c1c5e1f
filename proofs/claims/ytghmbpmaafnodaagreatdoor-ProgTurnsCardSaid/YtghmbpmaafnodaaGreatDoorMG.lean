/- Part. -/
import Derived.Test.YtghmbpmaafnodaaGreatDoorME
set_option linter.defProp false
open Option renaming some→I,none→u
open Bool renaming true→Y,false→X,not_false→hi,not_true→ij,false_eq_true→pq,and_self→wx
open Go.bk.aa renaming int→J,str→Z,bool→D
open Go.IntKind renaming i64→U
open Nat renaming reduceAdd→cd,reduceLeDiff→de,lt_succ_self→gh,zero_add→vw,le_of_lt→CD
open List renaming take_of_length_le→ef,append_nil→fg,getElem?_cons_zero→jk,take→kl,getElem?_cons_succ→lm,drop_of_length_le→mn,getElem?_map→rs,mem_of_getElem?→tu,nil_append→uv,replicate→xy,drop_zero→yz,drop→zA,all_cons→AB,all_nil→BC
namespace Go.Proofs.YtghmbpmaafnodaaGreatDoor
open Go.bk
section
def KO:=B @ad.bb @ad.cL
def PB:=B (B (B (B (B (B (B (B @OV @OS) (B @LP (B @LQ @LV))) (B (B @OK (B @g9 @it)) (B @Eo (B @e8 @qc)))) (B (B (B @OR (B @OM @OQ)) (B @ON (B @OO @OL))) (B (B @Ls (B @Lr @ED)) (B @D1 (B @D2 @D3))))) (B (B (B (B @u4 @u5) (B @DY (B @DZ @u3))) (B (B @D0 (B @DX @Option.bind_some.{0,0})) (B @aK (B @aH @Ef)))) (B (B (B @LZ (B @L1 @LY)) (B @l3 (B @B_ @L0))) (B (B @List.getElem?_cons_zero.{0} (B @List.getElem?_cons_succ.{0} @List.drop_zero.{0})) (B @List.drop_succ_cons.{0} (B @List.take_succ_cons.{0} @List.take_zero.{0})))))) (B (B (B (B (B @List.set_cons_zero.{0} @List.set_cons_succ.{0}) (B @List.cons_append.{0} (B @List.nil_append.{0} @List.length_cons.{0}))) (B (B @List.length_nil.{0} (B @List.all_cons.{0} @List.all_nil.{0})) (B @Bool.and_true (B @Bool.and_self @Nat.zero_add)))) (B (B (B @Nat.add_zero (B @aV @and_self)) (B @and_true (B @true_and @if_true.{1}))) (B (B @aT (B @eO @fk)) (B @oU (B @BL @q4))))) (B (B (B (B @BK @BJ) (B @Nu (B @Nw @NB))) (B (B @NG (B @NC @Ns)) (B @Nt (B @Ny @NH)))) (B (B (B @Nf (B @Ng @NA)) (B @Nv (B @Dj @Dk))) (B (B @NE (B @Nh @Ni)) (B @Nj (B @Nk @Nl))))))) (B (B (B (B (B (B @Nn @No) (B @Np (B @Nq @Nr))) (B (B @Nx (B @Nz @NF)) (B @ND (B @N9 @Oc)))) (B (B (B @NX (B @ze @sz)) (B @zf (B @NZ @N2))) (B (B @N7 (B @Dz @DA)) (B @DB (B @Og @N_))))) (B (B (B (B @Ob @Oe) (B @Oh (B @Of @N8))) (B (B @Oi (B @Od @Oa)) (B @sy (B @NY @N0)))) (B (B (B @N1 (B @N3 @N4)) (B @N5 (B @N6 @Hg))) (B (B @Hp (B @Hh @Hm)) (B @Hl (B @Hk @Hj)))))) (B (B (B (B (B @Hi @Hn) (B @Ho (B @F9 @KG))) (B (B @ad.m7 (B @ad.dv @ad.get_set_same)) (B @ad.get_set_other (B @ad.bb @ad.cL)))) (B (B (B @ad.LL (B @ad.set_set @E4)) (B @z7 (B @E5 @z8))) (B (B @E6 (B @z_ @Aa)) (B @Ff (B @Fg @Fo))))) (B (B (B (B @Fp @E7) (B @Fm (B @E8 @Fc))) (B (B @Fh (B @E9 @Fr)) (B @Fe (B @Fi @Fq)))) (B (B (B @EV (B @EW @Fj)) (B @Fl (B @Fb @Fk))) (B (B @E1 (B @E2 @FE)) (B @Fa (B @ES @ET)))))))) (B (B (B (B (B (B (B @FC @FD) (B @Fw (B @Fx @Ft))) (B (B @Fu (B @Fv @Fy)) (B @Fz (B @FA @FB)))) (B (B (B @Fs (B @EM @EN)) (B @EL (B @ER @EU))) (B (B @EO (B @EX @EY)) (B @EZ (B @E0 @E_))))) (B (B (B (B @EP @EQ) (B @E3 (B @GG @GI))) (B (B @GJ (B @Ax @GK)) (B @GL (B @GM @GN)))) (B (B (B @GO (B @GP @GQ)) (B @GR (B @GS @GU))) (B (B @GV (B @GW @GX)) (B @GY (B @GZ @G0)))))) (B (B (B (B (B @vs @Ay) (B @G1 (B @G2 @s6))) (B (B @qF (B @G3 @G4)) (B @G5 (B @G6 @G7)))) (B (B (B @G8 (B @G9 @G_)) (B @Ha (B @Hb @Hc))) (B (B @Hd (B @He @Gm)) (B @Gn (B @Gp @Gq))))) (B (B (B (B @Gr @Gs) (B @Gt (B @Gu @Gv))) (B (B @Gw (B @Gx @Gy)) (B @Gz (B @GA @GB)))) (B (B (B @s4 (B @m2 @s5)) (B @GC (B @vr @GD))) (B (B @GF (B @H7 @H8)) (B @H9 (B @H_ @Ia))))))) (B (B (B (B (B (B @Ib @Ic) (B @Ie (B @If @Ig))) (B (B @Ih (B @Ii @Ij)) (B @Ik (B @Il @Im)))) (B (B (B @Io (B @Ip @Iq)) (B @Ir (B @Is @It))) (B (B @Iu (B @AE @Iv)) (B @Iw (B @Ix @Iy))))) (B (B (B (B @Iz @IA) (B @IB (B @IC @ID))) (B (B @IE (B @IF @IG)) (B @IH (B @II @IK)))) (B (B (B @HJ (B @HK @HL)) (B @HM (B @HN @HO))) (B (B @HP (B @HQ @HR)) (B @HS (B @HT @HU)))))) (B (B (B (B (B @HV @HW) (B @HX (B @HY @HZ))) (B (B @H2 (B @H3 @H4)) (B @H5 (B @H6 @J8)))) (B (B (B @tj (B @vN @tk)) (B @vO (B @tl @vP))) (B (B @J4 (B @J5 @vQ)) (B @Bt (B @J6 @J7))))) (B (B (B (B @qY (B @vR @m9)) (B @tm (B @Bs @JX))) (B (B @JY (B @JZ @J0)) (B @J1 (B @J2 @J3)))) (B (B (B @A2 (B @A3 @I1)) (B @A4 (B @I2 @A5))) (B (B @vC (B @I3 @I0)) (B @AZ (B @A0 @A1))))))))
def aR:=B (B (B (B (B @OV @OS) (B @LP (B @LQ @LV))) (B (B @OK @g9) (B @it (B @Eo @e8)))) (B (B (B @qc @OR) (B @OM (B @OQ @ON))) (B (B @OO @OL) (B @Ls (B @Lr @ED))))) (B (B (B (B @D1 @D2) (B @D3 (B @u4 @u5))) (B (B @DY @DZ) (B @u3 (B @D0 @DX)))) (B (B (B @Option.bind_some.{0,0} @aK) (B @aH (B @Ef @LZ))) (B (B @L1 @LY) (B @l3 (B @B_ @L0)))))
def cw:=B (B (B (B @List.getElem?_cons_zero.{0} (B @List.getElem?_cons_succ.{0} @List.drop_zero.{0})) (B (B @List.drop_succ_cons.{0} @List.take_succ_cons.{0}) (B @List.take_zero.{0} @List.set_cons_zero.{0}))) (B (B (B @List.set_cons_succ.{0} @List.cons_append.{0}) (B @List.nil_append.{0} @List.length_cons.{0})) (B (B @List.length_nil.{0} @List.all_cons.{0}) (B @List.all_nil.{0} @Bool.and_true)))) (B (B (B (B @Bool.and_self @Nat.zero_add) (B @Nat.add_zero @aV)) (B (B @and_self @and_true) (B @true_and @if_true.{1}))) (B (B (B @aT @eO) (B @fk @oU)) (B (B @BL @q4) (B @BK @BJ))))
def bL:=B (B (B (B (B @Nu (B @Nw @NB)) (B (B @NG @NC) (B @Ns @Nt))) (B (B (B @Ny @NH) (B @Nf @Ng)) (B (B @NA @Nv) (B @Dj @Dk)))) (B (B (B @NE (B @Nh @Ni)) (B (B @Nj @Nk) (B @Nl @Nn))) (B (B (B @No @Np) (B @Nq @Nr)) (B (B @Nx @Nz) (B @NF @ND))))) (B (B (B (B @N9 (B @Oc @NX)) (B (B @ze @sz) (B @zf @NZ))) (B (B (B @N2 @N7) (B @Dz @DA)) (B (B @DB @Og) (B @N_ @Ob)))) (B (B (B @Oe (B @Oh @Of)) (B (B @N8 @Oi) (B @Od @Oa))) (B (B (B @sy @NY) (B @N0 @N1)) (B (B @N3 @N4) (B @N5 @N6)))))
def b8:=B (B (B @Hg (B @Hp @Hh)) (B @Hm (B @Hl @Hk))) (B (B @Hj (B @Hi @Hn)) (B @Ho (B @F9 @KG)))
def b7:=B (B (B @ad.m7 @ad.dv) (B @ad.get_set_same @ad.get_set_other)) (B (B @ad.bb @ad.cL) (B @ad.LL @ad.set_set))
def cX:=B (B (B (B (B (B (B @E4 (B @z7 @E5)) (B @z8 (B @E6 @z_))) (B (B @Aa (B @Ff @Fg)) (B (B @Fo @Fp) (B @E7 @Fm)))) (B (B (B @E8 (B @Fc @Fh)) (B (B @E9 @Fr) (B @Fe @Fi))) (B (B @Fq (B @EV @EW)) (B (B @Fj @Fl) (B @Fb @Fk))))) (B (B (B (B @E1 (B @E2 @FE)) (B @Fa (B @ES @ET))) (B (B @FC (B @FD @Fw)) (B (B @Fx @Ft) (B @Fu @Fv)))) (B (B (B @Fy (B @Fz @FA)) (B (B @FB @Fs) (B @EM @EN))) (B (B @EL (B @ER @EU)) (B (B @EO @EX) (B @EY @EZ)))))) (B (B (B (B (B @E0 (B @E_ @EP)) (B @EQ (B @E3 @GG))) (B (B @GI (B @GJ @Ax)) (B (B @GK @GL) (B @GM @GN)))) (B (B (B @GO (B @GP @GQ)) (B (B @GR @GS) (B @GU @GV))) (B (B @GW (B @GX @GY)) (B (B @GZ @G0) (B @vs @Ay))))) (B (B (B (B @G1 (B @G2 @s6)) (B (B @qF @G3) (B @G4 @G5))) (B (B @G6 (B @G7 @G8)) (B (B @G9 @G_) (B @Ha @Hb)))) (B (B (B @Hc (B @Hd @He)) (B (B @Gm @Gn) (B @Gp @Gq))) (B (B @Gr (B @Gs @Gt)) (B (B @Gu @Gv) (B @Gw @Gx))))))) (B (B (B (B (B (B @Gy (B @Gz @GA)) (B @GB (B @s4 @m2))) (B (B @s5 (B @GC @vr)) (B (B @GD @GF) (B @H7 @H8)))) (B (B (B @H9 (B @H_ @Ia)) (B (B @Ib @Ic) (B @Ie @If))) (B (B @Ig (B @Ih @Ii)) (B (B @Ij @Ik) (B @Il @Im))))) (B (B (B (B @Io (B @Ip @Iq)) (B @Ir (B @Is @It))) (B (B @Iu (B @AE @Iv)) (B (B @Iw @Ix) (B @Iy @Iz)))) (B (B (B @IA (B @IB @IC)) (B (B @ID @IE) (B @IF @IG))) (B (B @IH (B @II @IK)) (B (B @HJ @HK) (B @HL @HM)))))) (B (B (B (B (B @HN (B @HO @HP)) (B @HQ (B @HR @HS))) (B (B @HT (B @HU @HV)) (B (B @HW @HX) (B @HY @HZ)))) (B (B (B @H2 (B @H3 @H4)) (B (B @H5 @H6) (B @J8 @tj))) (B (B @vN (B @tk @vO)) (B (B @tl @vP) (B @J4 @J5))))) (B (B (B (B @vQ (B @Bt @J6)) (B (B @J7 @qY) (B @vR @m9))) (B (B @tm (B @Bs @JX)) (B (B @JY @JZ) (B @J0 @J1)))) (B (B (B @J2 (B @J3 @A2)) (B (B @A3 @I1) (B @A4 @I2))) (B (B @A5 (B @vC @I3)) (B (B @I0 @AZ) (B @A0 @A1)))))))
def K5:=B (B @eO (B @fk @oU)) (B (B @BL @q4) (B @BK @BJ))
def ah{p:Prop}(h:p:=by first|assumption|omega|(simp only[KO];omega)|(simp only[K5];done)|fail):p:=h
def dz{p:Prop}(h:p:=by first|assumption|omega|(simp only[KO];omega)|(simp only[K5];done)|(simp only[List.length_append,List.length_cons,List.length_nil];omega)|fail):p:=h
def QJ:(∀cs,(aa.agg cs).cells=cs)/\(∀b,(aa.bool b).cells=[D b])/\(∀k n,(aa.int k n).cells=[.int k n])/\(∀s,(aa.str s).cells=[Z s])/\(∀l i c,(aa.ptr l i c).cells=[.ptr l i c])/\aa.nilPtr.cells=[.nilPtr]/\(∀l i n e c,(aa.ax l i n e c).cells=[.ax l i n e c])/\aa.ag.cells=[.ag]/\(∀f a b,(aa.func f a b).cells=[.func f a b])/\aa.nilFunc.cells=[.nilFunc]/\aa.nilIface.cells=[.nilIface]:=
 ⟨λ_=>rfl,λ_=>rfl,λ_ _=>rfl,λ_=>rfl,λ_ _ _=>rfl,rfl,λ_ _ _ _ _=>rfl,rfl,λ_ _ _=>rfl,rfl,rfl⟩
def ai:=B @bU.eq_1 (B @cD.eq_1 (B @A.eq_1 (B @aB.eq_1 (B QJ PB))))
end
def Tok.cells(t:Tok):List aa:=[J U t.kind,Z t.text,J U t.n,J U t.pos]
def Tok.v(t:Tok):aa:= .agg [J U t.kind,Z t.text,J U t.n,J U t.pos]
def eR(H:ad)(v:aa)(T:List Tok):Prop:=(v= .ag/\T=[])\/∃l i cap,v= .ax l i T.length 4 cap/\(T=[]\/∃ro els,H.get l=I (.row ro 4 els)/\∀(k:Nat) (t:Tok),T[k]? =I t->els[i+k]? =I t.cells)
def z(H:ad)(r:Nat)(af aM:aa)(s:am):Prop:=H.get r=I (.row X 6 [[af,J U s.at_,J U s.aY,aM,J U s.an,J U s.bl]])
def lW:List (List (List aa)):=[[[Z [124,124],J U 24]],[[Z [38,38],J U 23]],[[Z [60],J U 19],[Z [60,61],J U 20],[Z [61,61],J U 21],[Z [33,61],J U 22]],[[Z [43],J U 14],[Z [45],J U 15]],[[Z [42],J U 16],[Z [47],J U 17],[Z [37],J U 18]]]
def oe(H:ad)(aM:aa):Prop:=∃l i cap ro els,aM= .ax l i 5 1 cap/\H.get l=I (.row ro 1 els)/\∀(k:Nat) (row:List (List aa)),lW[k]? =I row->∃l' c d h a,els[i+k]? =I [.ax l' c row.length 2 d]/\H.get l'=I (.row h 2 a)/\∀(j:Nat) (e:List aa),row[j]? =I e->a[c+j]? =I e
def qe(H:ad)(aM:aa):Prop:=aM= .ag\/oe H aM
structure cB(H:ad)(r:Nat)(T:List Tok)(af aM:aa)(s:am):Prop where
 rd:z H r af aM s
 ba:eR H af T
 aM:qe H aM
abbrev bs(r:Nat):ad->ad->Prop:=bV (· =r)
def eR.aP{H H':ad}{v:aa}{T:List Tok}(h:eR H v T)(p:∀l ro els,H.get l=I (.row ro 4 els)->H'.get l=I (.row ro 4 els)):eR H' v T:=by
 rcases h with h|⟨l,i,cap,c,a|⟨ro,els,a,d⟩⟩
 ·exact .inl h
 ·exact .inr ⟨l,i,cap,c,.inl a⟩
 ·exact .inr ⟨l,i,cap,c,.inr ⟨ro,els,p _ _ _ a,d⟩⟩
def eR.av{H H':ad}{v:aa}{T:List Tok}(h:eR H v T)(p:aw H H'):eR H' v T:=h.aP λ_ _ _ e=>p.get e
def eR.one{H:ad}{v:aa}{T:List Tok}(h:eR H v T):v.one=true:=by
 rcases h with⟨rfl,_⟩|⟨l,i,cap,rfl,_⟩<;>rfl
def oe.one{H:ad}{v:aa}(h:oe H v):v.one=true:=by
 obtain⟨l,i,cap,ro,els,rfl,_⟩:=h;rfl
def qe.one{H:ad}{v:aa}(h:qe H v):v.one=true:=by
 rcases h with rfl|h
 ·rfl
 ·exact h.one
def oe.aP{H H':ad}{v:aa}(h:oe H v)(p:∀l ro n els,n≠6->H.get l=I (.row ro n els)->H'.get l=I (.row ro n els)):oe H' v:=by
 obtain⟨l,i,cap,ro,els,d,e,j⟩:=h;refine⟨l,i,cap,ro,els,d,p _ _ _ _ ae e,λk row m=> ?_⟩;obtain⟨l',o,a,q,c,ap,aE,bB⟩:=j k row m;exact⟨l',o,a,q,c,ap,p _ _ _ _ ae aE,bB⟩
def qe.aP{H H':ad}{v:aa}(h:qe H v)(p:∀l ro n els,n≠6->H.get l=I (.row ro n els)->H'.get l=I (.row ro n els)):qe H' v:=by
 rcases h with rfl|h
 ·exact .inl rfl
 ·exact .inr (h.aP p)
def z.av{H H':ad}{r:Nat}{af aM:aa}{s:am}(a:z H r af aM s)(p:aw H H'):z H' r af aM s:=p.get a
def z.lt{H:ad}{r:Nat}{af aM:aa}{s:am}(a:z H r af aM s):r<H.next:=ad.aF a
def cB.mut{H H':ad}{r:Nat}{T:List Tok}{af aM:aa}{s s':am}(h:cB H r T af aM s)(m:bs r H H')(c:z H' r af aM s'):cB H' r T af aM s':=by
 have a:∀l ro n els,n≠6->H.get l=I (.row ro n els)->H'.get l=I (.row ro n els):=λl ro n els d e=>m.get e (by
  rintro rfl;rw[h.rd]at e;simp only[aT,b_.row.injEq]at e;exact d e.2.1.symm)
 exact⟨c,h.ba.aP λl ro els e=>a l ro 4 els ae e,h.aM.aP a⟩
def cB.av{H H':ad}{r:Nat}{T:List Tok}{af aM:aa}{s:am}(h:cB H r T af aM s)(p:aw H H'):cB H' r T af aM s:=h.mut (p.mut _) (h.rd.av p)
def hK{H:ad}{r:Nat}{af aM:aa}{s:am}{T:List Tok}(d:z H r af aM s)(aq:eR H af T):W (al P aj 121 [.ptr r 0 0] H) λv H'=>v=(G T s.at_).v/\aw H H':=by
 unfold z at d;have ak:=ad.aF d;refine bt (λ_=>Vz 0) ?_;by_cases a:s.at_<0
 ·simp(disch:=try exact ah)only[pd,aR,cd,aa.cells,cD,cw,A,bL,aB,bL,b8,b7,m2,d,a,decide_true,aD];exact⟨by simp[G,a,Tok.v,Tok.none],aw.push _ _⟩
 ·rcases aq with⟨rfl,rfl⟩|⟨l,i,cap,rfl,k⟩
  ·have c:(0:Int)<=s.at_:=ae;simp(disch:=try exact ah)only[pd,aR,cd,aa.cells,cD,cw,A,bL,aB,bL,b8,b7,s4,m2,d,a,c,decide_true,decide_false,aD,vR];exact⟨by simp[G,a,Tok.v,Tok.none,c],aw.push _ _⟩
  ·by_cases c:(T.length:Int)<=s.at_
   ·simp(disch:=try exact ah)only[pd,aR,cd,aa.cells,cD,cw,A,bL,aB,bL,b8,b7,s4,m2,d,a,c,decide_true,decide_false,aD,qY];exact⟨by simp[G,a,Tok.v,Tok.none,c],aw.push _ _⟩
   ·have e:s.at_.toNat<T.length:=ae;obtain⟨ro,els,h,m⟩:=k.resolve_left (by rintro rfl;simp at e);have n:=ad.aF h;have j:=m s.at_.toNat T[s.at_.toNat] (by simp[e]);simp only[Tok.cells]at j;simp(disch:=try exact ah)only[pd,aR,cd,aa.cells,cD,cw,A,bL,aB,bL,b8,b7,s4,m2,d,a,c,decide_false,aD,qY,vC,h,j];refine⟨?_,aw.push _ _⟩;simp[G,a,c,Tok.v,e]
def qG{H:ad}{r:Nat}{af aM:aa}{s:am}(a:z H r af aM s):W (al P aj 102 [.ptr r 0 0] H) λv H'=>v= D (s.an != 0)/\H'=H:=by
 unfold z at a;refine bt (λ_=>Vk 0) ?_;simp only[wM,aR,cw,A,bL,bL,b8,vr,Ax,a,aD]
def jR{H:ad}{r:Nat}{af aM:aa}{s:am}{T:List Tok}(e:z H r af aM s)(aq:eR H af T)(k:Int)(x:List UInt8):W (al P aj 119 [.ptr r 0 0,J U k,Z x] H) λv H'=>v= D (a8 T s k x)/\aw H H':=by
 refine bt (λ_=>Vw 0) ?_;rw[wY];refine aA (hK e aq) ?_;rintro _ H1 ⟨rfl,c⟩;refine⟨c.1,?_⟩;simp only[aR,cd,aa.cells,cD,cw,bL,aB,bL,b7,Tok.v];refine aA (qG (e.av (c.a1 _))) ?_;rintro _ j ⟨rfl,rfl⟩;refine⟨aV _,?_⟩;by_cases a:s.an=0
 ·by_cases d:(G T s.at_).kind=k
  ·simp only[aR,cw,A,bL,bL,b8,b7,vs,Ay,aD,a,d,bne_self_eq_false,hi,beq_self_eq_true];exact⟨by simp[a8,a,d],c.a1 _⟩
  ·have i:((G T s.at_).kind==k)=false:=by simpa using d
   simp only[aR,cw,A,bL,bL,b8,b7,vs,aD,a,i,bne_self_eq_false,hi];exact⟨by simp[a8,a,d],c.a1 _⟩
 ·have h:(s.an != 0)=true:=by simpa using a
  simp only[aR,aD,h,ij];exact⟨by simp[a8,a],c.a1 _⟩
def jq{H:ad}{r:Nat}{af aM:aa}{s:am}(a:z H r af aM s)(s':am):bs r H (H.set r (.row X 6 [[af,J U s'.at_,J U s'.aY,aM,J U s'.an,J U s'.bl]]))/\z (H.set r (.row X 6 [[af,J U s'.at_,J U s'.aY,aM,J U s'.an,J U s'.bl]])) r af aM s':=
 ⟨bV.bH (S:=(· =r)) (bV.refl _ _) (.inl rfl) _,ad.get_set_same a.lt⟩
def m3{H:ad}{r:Nat}{T:List Tok}{af aM:aa}{s:am}(a:cB H r T af aM s)(e:Int):W (al P aj 120 [.ptr r 0 0,J U e] H) λv H'=>v= D X/\bs r H H'/\cB H' r T af aM (bx T e s):=by
 refine bt (λ_=>Vy 0) ?_;have h:=a.rd;have o:=a.ba.one;have p:=a.aM.one;rw[w1];refine aA (qG h) ?_;rintro _ H1 ⟨rfl,rfl⟩;refine⟨aV _,?_⟩;by_cases c:s.an=0
 ·rw[show bx T e s={s with an:=e,bl:=(G T s.at_).pos} by simp[bx,c]];simp(disch:=try exact ah)only[aR,c,bne_self_eq_false,hi];refine aA (hK h a.ba) ?_;rintro _ k ⟨rfl,d⟩;refine⟨d.1,?_⟩;have i:z k r af aM s:=h.av d;have j:=i;unfold z at j;simp(disch:=try exact ah)only[pc,aR,cd,aa.cells,cD,cw,bL,aB,bL,Tok.v,AE,Aa,vr,j];obtain⟨m,n⟩:=jq i {s with an:=e,bl:=(G T s.at_).pos};exact aD.2 ⟨rfl,(d.mut _).trans m,a.mut ((d.mut _).trans m) n⟩
 ·have l:(s.an != 0)=true:=by simpa using c
  rw[show bx T e s=s by simp[bx,c]];simp(disch:=try exact ah)only[pc,aR,l,ij];exact aD.2 ⟨rfl,bV.refl _ _,a⟩
def Dr{H:ad}{r:Nat}{T:List Tok}{af aM:aa}{s:am}(a:cB H r T af aM s)(k:Int)(x:List UInt8):W (al P aj 136 [.ptr r 0 0,J U k,Z x] H) λv H'=>v= D (cK T k x s).1/\bs r H H'/\cB H' r T af aM (cK T k x s).2:=by
 refine bt (λ_=>VJ 0) ?_;have e:=a.rd;have l:=a.ba.one;have n:=a.aM.one;rw[w9];refine aA (jR e a.ba k x) ?_;rintro _ H1 ⟨rfl,c⟩;refine⟨c.1,?_⟩;have h:z H1 r af aM s:=e.av c;have i:=h;unfold z at i;cases d:a8 T s k x with
 |false=>
  rw[show cK T k x s=(X,s) by simp[cK,d]];simp(disch:=try exact ah)only[aR,hi];exact aD.2 ⟨rfl,c.mut _,a.av c⟩
 |true=>
  rw[show cK T k x s=(Y,ao s) by simp[cK,d]];simp(disch:=try exact ah)only[aR,cd,de,aa.cells,cD,cw,A,bL,aB,bL,b8,m2,i,ij];obtain⟨m,j⟩:=jq h (ao s);exact aD.2 ⟨rfl,(c.mut _).trans m,a.mut ((c.mut _).trans m) j⟩
def DO{H:ad}{r:Nat}{T:List Tok}{af aM:aa}{s:am}(h:cB H r T af aM s)(x:List UInt8):W (al P aj 122 [.ptr r 0 0,Z x] H) λv H'=>v= D (bD T x s).1/\bs r H H'/\cB H' r T af aM (bD T x s).2:=by
 refine bt (λ_=>VA 0) ?_;rw[w2];refine aA (Dr h 4 x) ?_;rintro _ H1 ⟨rfl,d,c⟩;refine⟨d.1,?_⟩;cases a:a8 T s 4 x with
 |true=>
  rw[show bD T x s=(Y,ao s) by simp[bD,a]];simp only[cK,a,aK]at c ⊢;simp only[aR];exact aD.2 ⟨rfl,d,c⟩
 |false=>
  rw[show bD T x s=(X,bx T 2 s) by simp[bD,a]];simp only[cK,a,aH]at c ⊢;simp only[aR];refine dZ (m3 c 2) ?_;rintro _ j ⟨rfl,e,i⟩;refine⟨e.1,?_⟩;simp only[aR];exact aD.2 ⟨rfl,d.trans e,i⟩
def v_{H:ad}{r:Nat}{T:List Tok}{af aM:aa}{s:am}(a:cB H r T af aM s)(x:List UInt8):W (al P aj 177 [.ptr r 0 0,Z x] H) λv H'=>v= D (cp T x s).1/\bs r H H'/\cB H' r T af aM (cp T x s).2:=by
 refine bt (λ_=>V9 0) ?_;have p:=a.rd;have w:=a.ba.one;have y:=a.aM.one;rw[rO];refine aA (jR p a.ba 4 x) ?_;rintro _ H1 ⟨rfl,c⟩;refine⟨c.1,?_⟩;have k:=a.av c;have i:=k.rd;have q:=i.lt;have j:=i;unfold z at j;cases h:a8 T s 4 x with
 |false=>
  rw[show cp T x s=(X,bx T 2 s) by simp[cp,h]];simp(disch:=try exact ah)only[aR,hi];refine aA (m3 k 2) ?_;rintro _ n ⟨rfl,d,l⟩;refine⟨d.1,?_⟩
  try simp only[rO]
  exact aD.2 ⟨rfl,(c.mut _).trans d,l⟩
 |true=>
  by_cases e:50<=s.aY
  ·rw[show cp T x s=(X,bx T 4 s) by simp[cp,h,e]];simp(disch:=try exact ah)only[aR,cw,A,bL,bL,b8,s5,j,ij,e,decide_true];refine aA (m3 k 4) ?_;rintro _ n ⟨rfl,d,l⟩;refine⟨d.1,?_⟩
   try simp(disch:=try exact ah)only[rO]
   exact aD.2 ⟨rfl,(c.mut _).trans d,l⟩
  ·rw[show cp T x s=(Y,{s with at_:=dY (s.at_+1),aY:=dY (s.aY+1)}) by simp[cp,h,e]];simp(disch:=try exact ah)only[aR,cd,de,aa.cells,cD,cw,A,bL,aB,bL,b8,b7,m2,s5,j,ij,e,decide_false];obtain⟨m,o⟩:=jq i {s with at_:=dY (s.at_+1),aY:=dY (s.aY+1)};exact aD.2 ⟨rfl,(c.mut _).trans m,a.mut ((c.mut _).trans m) o⟩
def Al{H:ad}{r:Nat}{T:List Tok}{af aM:aa}{s:am}(a:cB H r T af aM s)(x:List UInt8):W (al P aj 195 [.ptr r 0 0,Z x] H) λv H'=>v= D (fW T x s).1/\bs r H H'/\cB H' r T af aM (fW T x s).2:=by
 refine bt (λ_=>Wq 0) ?_;have c:=a.rd;have j:=a.ba.one;have k:=a.aM.one;have d:=c;unfold z at d;simp(disch:=try exact ah)only[x2,aR,cd,de,aa.cells,cD,cw,A,bL,aB,bL,b8,s5,d];obtain⟨m,h⟩:=jq c (dA s);refine aA (DO (a.mut m h) x) ?_;rintro _ H1 ⟨rfl,e,i⟩;refine⟨e.1,?_⟩;simp only[CU];exact aD.2 ⟨rfl,m.trans e,i⟩
def bY.cells(a:bY)(kv:aa):List aa:=[J U a.kind,J U a.n,Z a.name,Z a.b5,J U a.ci,kv,J U a.pos,J U a.hJ,J U a.p_,J U a.kJ,J U a.ref]
mutual
def cb(H:ad)(ok:Nat->Prop):az->aa->Prop
 | .mk a ks,v=>∃kv,v= .agg (a.cells kv)/\((kv= .ag/\ks.length=0)\/(∃l i cap ro els,kv= .ax l i ks.length 11 cap/\ok l/\H.get l=I (.row ro 11 els)/\cU H ok ks (els.drop i))\/∃l i cap,kv= .ax l i 0 11 cap/\ks.length=0)
def cU(H:ad)(ok:Nat->Prop):List az->List (List aa)->Prop
 |[],_=>True
 |e::es,[]=>False
 |e::es,cs::css=>cb H ok e (.agg cs)/\cU H ok es css
end
def bW(H:ad)(ok:Nat->Prop)(ks:List az)(kv:aa):Prop:=(kv= .ag/\ks.length=0)\/(∃l i cap ro els,kv= .ax l i ks.length 11 cap/\ok l/\H.get l=I (.row ro 11 els)/\cU H ok ks (els.drop i))\/∃l i cap,kv= .ax l i 0 11 cap/\ks.length=0
def gq{H:ad}{ok:Nat->Prop}{a:bY}{ks:List az}{v:aa}:cb H ok (.mk a ks) v↔∃kv,v= .agg (a.cells kv)/\bW H ok ks kv:=by
 rw[cb];rfl
def cH(H:ad)(ok:Nat->Prop)(H':ad)(ok':Nat->Prop):Prop:=∀l ro els,ok l->H.get l=I (.row ro 11 els)->ok' l/\H'.get l=I (.row ro 11 els)
mutual
def cb.aP{H H':ad}{ok ok':Nat->Prop}(p:cH H ok H' ok'):∀(e:az) (v:aa),cb H ok e v->cb H' ok' e v
 | .mk a ks,v,h=>by
  rw[cb]at h ⊢;obtain⟨kv,d,c⟩:=h;refine⟨kv,d,?_⟩;rcases c with c|⟨l,i,cap,ro,els,ap,aE,bB,cc⟩|c
  ·exact .inl c
  ·obtain⟨aX,j⟩:=p l ro els aE bB;exact .inr (.inl ⟨l,i,cap,ro,els,ap,aX,j,cU.aP p ks _ cc⟩)
  ·exact .inr (.inr c)
def cU.aP{H H':ad}{ok ok':Nat->Prop}(p:cH H ok H' ok'):∀(es:List az) (cs:List (List aa)),cU H ok es cs->cU H' ok' es cs
 |[],_,_=>by rw[cU];trivial
 |e::es,[],h=>by rw[cU]at h;exact h.elim
 |e::es,cs::css,h=>by
  rw[cU]at h ⊢;exact⟨cb.aP p e _ h.1,cU.aP p es css h.2⟩
end
def bW.aP{H H':ad}{ok ok':Nat->Prop}(p:cH H ok H' ok'){ks:List az}{v:aa}(h:bW H ok ks v):bW H' ok' ks v:=by
 rcases h with a|⟨l,i,cap,ro,els,ap,aE,bB,cc⟩|a
 ·exact .inl a
 ·obtain⟨aX,c⟩:=p l ro els aE bB;exact .inr (.inl ⟨l,i,cap,ro,els,ap,aX,c,cU.aP p ks _ cc⟩)
 ·exact .inr (.inr a)
def cH.mut{r:Nat}{H H':ad}{ok ok':Nat->Prop}(m:bs r H H')(a:¬ok r)(ak:∀l,ok l->ok' l):cH H ok H' ok':=λl ro els h e=>⟨ak l h,m.get e (by rintro rfl;exact a h)⟩
def cH.av{H H':ad}{ok ok':Nat->Prop}(m:aw H H')(ak:∀l,ok l->ok' l):cH H ok H' ok':=λl ro els h e=>⟨ak l h,m.get e⟩
def aW(n:Nat):Nat->Prop:=λl=>n<=l
def cb.agg{H:ad}{ok:Nat->Prop}{e:az}{v:aa}(h:cb H ok e v):∃k n nm o d kv p t1 t2 t3 m,v= .agg [J U k,J U n,Z nm,Z o,J U d,kv,J U p,J U t1,J U t2,J U t3,J U m]/\kv.one=true:=by
 cases e with|mk a ks=>
 rw[gq]at h;obtain⟨kv,c,j⟩:=h;refine⟨_,_,_,_,_,kv,_,_,_,_,_,c,?_⟩;rcases j with⟨rfl,_⟩|⟨l,i,cap,ro,els,rfl,_⟩|⟨l,i,cap,rfl,_⟩<;>rfl
def cb.leaf(H:ad)(ok:Nat->Prop)(a:bY):cb H ok (.mk a []) (.agg (a.cells .ag)):=by
 rw[gq];exact⟨_,rfl,.inl ⟨rfl,rfl⟩⟩
def Jj{r:Nat}{T:List Tok}{af aM:aa}{s:am}{H0:ad}(e:cB H0 r T af aM s){l i:Nat}{cap:Option Nat}{ro:Bool}{els:List (List aa)}(w:H0.get l=I (.row ro 2 els))(N:Nat)(all:List (ay×Int))(B:all.length<=1000)
  (o:∀(j:Nat) (p:ay×Int),all[j]? =I p->els[i+j]? =I [Z p.1,J U p.2]):
  ∀(rest pre:List (ay×Int)),all=pre++rest->∀(n:Nat) (H:ad),rest.length<n->aw H0 H->
   W (nG (al P aj) N n (.ptr r 0 0) (.ax l i all.length 2 cap) (J U all.length) (J U pre.length) H) λv H'=>v= J U (ko T s rest)/\aw H0 H'
 |[],pre,a,0,H,c,p=>ae
 |[],pre,a,n+1,H,c,p=>by
  have d:¬((pre.length:Int)<(all.length:Int)):=by rw[a];simp
  simp(disch:=try exact ah)only[nG,rN,uo,ai,d,decide_false];exact aD.2 ⟨rfl,p⟩
 |q::rest,pre,a,0,H,c,p=>ae
 |(x,k)::rest,pre,a,n+1,H,c,p=>by
  have d:(pre.length:Int)<(all.length:Int):=by rw[a];simp;omega
  have G:(0:Int)<=(pre.length:Int):=ae;have E:=o pre.length (x,k) (by rw[a];simp);have y:=p.get w;have ak:=ad.aF y;have ap:((pre.length:Int)).toNat=pre.length:=ae;simp(disch:=try exact ah)only[nG,uo,cd,ai,d,decide_true,y,ap,E];refine aA (jR (e.rd.av (p.a1 _)) (e.ba.av (p.a1 _)) 4 x) ?_;rintro _ m ⟨rfl,h⟩;refine⟨h.1,?_⟩;have C:m.get H.next=I (.row X 2 [[Z x,J U k]]):=h.get (ad.a_ _ _)
  have A:=(p.a1 _).trans h;cases z:a8 T s 4 x with
  |true=>
   simp(disch:=try exact ah)only[ai,C];exact aD.2 ⟨by simp[ko,z],A⟩
  |false=>
   have F:IntKind.i64.wrap ((pre.length:Int)+1)=((pre++[(x,k)]).length:Int):=by
    have K:pre.length<all.length:=ae;rw[wrap_i64 ae ae];simp
   simp(disch:=try exact ah)only[ai,F];refine(Jj e w N all B o rest (pre++[(x,k)]) (by simp[a]) n m (by simp at c;omega) A).mono ?_;rintro v H' ⟨rfl,q⟩;exact⟨by simp[ko,z],q⟩
def Jk{H:ad}{r:Nat}{T:List Tok}{af aM:aa}{s:am}(d:cB H r T af aM s)(w:aM≠ .ag)(lev:Nat)(o:lev<5):W (al P aj 171 [.ptr r 0 0,J U lev] H) λv H'=>v= J U (hf T lev s)/\aw H H':=by
 refine bt (λ_=>V8 10) ?_;have e:=d.rd;unfold z at e;obtain⟨l,i,cap,ro,els,rfl,h,k⟩:=d.aM.resolve_left w;obtain⟨all,c⟩:∃all,hE[lev]? =I all:=⟨hE[lev]'(by simpa [hE]using o),by simp[hE]⟩;have x:lW[lev]? =I (all.map λp=>[aa.str p.1,J U p.2]):=by
  have:lW=hE.map λrow=>row.map λp=>[aa.str p.1,J U p.2]:=rfl
  rw[this,rs,c];rfl
 obtain⟨l',E,y,F,A,ap,aE,bB⟩:=k lev _ x;have n:all.length<=1000:=by
  have:∀a∈hE,a.length<=1000:=aC;exact this all (tu c)
 have B:(0:Int)<=(lev:Int):=ae;have C:(lev:Int)<((5:Nat):Int):=ae;have aq:((lev:Int)).toNat=lev:=ae;simp only[List.length_map]at ap;simp(disch:=try exact ah)only[xN,ai,e,h,aq,ap];refine(Jj d aE 10 all n (λj p m=>bB j _ (by rw[rs,m];rfl)) all [] rfl 10 H (by
  have:∀a∈hE,a.length<10:=aC;exact this all (tu c)) (.refl _)).mono ?_
 rintro v H' ⟨rfl,q⟩;exact⟨by simp[hf,c],q⟩
def K3{r:Nat}{T:List Tok}{af aM:aa}{H0:ad}{s0:am}(h:cB H0 r T af aM s0){b t:Nat}(p:H0.next<=b)(aq:H0.next<=t){x:ay}{k n q:Int}(d:Nat)(B:d<=1000)(N:Nat):
  ∀(j i:Nat),i+j=d->∀(m:Nat) (H:ad) (s:am),j<m->bs r H0 H->z H r af aM s->H.get b=I (.row X 2 [[Z [],J U 0]])->H.get t=I (.row X 4 [[J U k,Z x,J U n,J U q]])->
   W (nr (al P aj) N m (.ptr r 0 0) (.ptr b 0 0) (J U d) (.ptr t 0 0) (J U d) (J U i) H) λv H'=>v= .agg [Z x,J U d]/\bs r H0 H'/\cB H' r T af aM (is T [93] j s)
 |0,i,w,0,H,s,y,mt,a,c,e=>ae
 |0,i,w,m+1,H,s,y,mt,a,c,e=>by
  have o:¬((i:Int)<(d:Int)):=ae;have G:=ad.aF c;simp(disch:=try exact ah)only[nr,rx,tX,cd,ai,o,decide_false,c,e];exact aD.2 ⟨rfl,mt.bH (.inr p) _,h.mut (mt.bH (.inr p) _) (by
   have:=h.rd.lt;unfold z at a ⊢;rw[ad.get_set_other ae];exact a)⟩
 |j+1,i,w,0,H,s,y,mt,a,c,e=>ae
 |j+1,i,w,m+1,H,s,y,mt,a,c,e=>by
  have o:((i:Int)<(d:Int)):=ae;have K:=h.rd.lt;simp(disch:=try exact ah)only[nr,tX,ai,o,decide_true];refine aA (DO (h.mut mt a) [93]) ?_;rintro _ A ⟨rfl,l,E⟩;refine⟨l.1,?_⟩;have C:IntKind.i64.wrap ((i:Int)+1)=((i+1:Nat):Int):=by rw[wrap_i64 ae ae];simp
  simp(disch:=try exact ah)only[ai,C];refine(K3 h p aq d B N j (i+1) ae m A _ ae (mt.trans l) E.rd (l.get c ae) (l.get e ae)).mono ?_;rintro v H' ⟨rfl,aX,F⟩;exact⟨rfl,aX,F⟩
def BG{r:Nat}{T:List Tok}{af aM:aa}{H0:ad}{s0:am}(e:cB H0 r T af aM s0){b t:Nat}(k:H0.next<=b)(aq:H0.next<=t)(B:b≠t)(d:Nat)(x:d<=1000)(N:Nat)(w:d<N){H:ad}{s:am}(mt:bs r H0 H)(i:z H r af aM s)(h:H.get b=I (.row X 2 [[Z [],J U 0]]))
  (o:H.get t=I (.row X 4 [[J U (G T s.at_).kind,Z (G T s.at_).text,J U (G T s.at_).n,J U (G T s.at_).pos]])) {c:Bool}
  (l:((G T s.at_).kind != 1&&(!a8 T s 3 [105,110,116]&& !a8 T s 3 [98,111,111,108]))=c):
  W (tQ (al P aj) N H (.ptr r 0 0) (.ptr b 0 0) (J U d) (.ptr t 0 0) (D c)) λv H'=>v= .agg [Z (fy T d s).1.1,J U (fy T d s).1.2]/\bs r H0 H'/\cB H' r T af aM (fy T d s).2:=by
 have K:=e.rd.lt;have C:=ad.aF h;have L:=ad.aF o;have F:=mt.1;have j:=e.mut mt i;cases c with
 |true=>
  rw[show fy T d s=(([],0),bx T 2 s) by simp only[fy,l,aK]];simp(disch:=try exact ah)only[tQ,ai];refine aA (m3 j 2) ?_;rintro _ H1 ⟨rfl,a,A⟩;refine⟨a.1,?_⟩;have m:=a.get h ae;have E:=ad.aF m;simp(disch:=try exact ah)only[cd,ai,m];have q:=(mt.trans a).bH (.inr k) (.row X 2 [[Z [],J U 0]]);refine aD.2 ⟨rfl,q,e.mut q ?_⟩;have:=A.rd;unfold z at this ⊢;rw[ad.get_set_other ae];exact this
 |false=>
  rw[show fy T d s=(((G T s.at_).text,(d:Int)),is T [93] d (ao s)) by simp[fy,l]];have M:=j.ba.one;have O:=j.aM.one;have p:=i;unfold z at p;simp(disch:=try exact ah)only[tQ,cd,de,ai,p];obtain⟨a,y⟩:=jq i (ao s);exact K3 e k aq d x N d 0 ae N _ _ w (mt.trans a) y (a.get h ae) (a.get o ae)
def KZ{r:Nat}{T:List Tok}{af aM:aa}{H0:ad}{s0:am}(c:cB H0 r T af aM s0){b:Nat}(m:H0.next<=b)(d:Nat)(o:d<=1000)(N:Nat)(l:d<N){H:ad}{s:am}(mt:bs r H0 H)(a:z H r af aM s)(j:H.get b=I (.row X 2 [[Z [],J U 0]])):
  W (o7 (al P aj) N (.ptr r 0 0) (.ptr b 0 0) (J U d) H) λv H'=>v= .agg [Z (fy T d s).1.1,J U (fy T d s).1.2]/\bs r H0 H'/\cB H' r T af aM (fy T d s).2:=by
 have M:=c.rd.lt;have K:=ad.aF j;have L:=mt.1;rw[o7];refine aA (hK a (c.mut mt a).ba) ?_;rintro _ H1 ⟨rfl,w⟩;refine⟨w.1,?_⟩;have F:=w.1;have e:=w.a1 (.row X 4 [[J U (G T s.at_).kind,Z (G T s.at_).text,J U (G T s.at_).n,J U (G T s.at_).pos]]);have p:=ad.a_ H1 (.row X 4 [[J U (G T s.at_).kind,Z (G T s.at_).text,J U (G T s.at_).n,J U (G T s.at_).pos]]);have B:=c.mut mt a;by_cases k:(G T s.at_).kind=1
 ·have q:((G T s.at_).kind != 1)=false:=by simpa using k
  simp only[Tok.v,cd,ai,q,tR,tS,tT,tU,tV,tW,wE,wF,wG,wH,wI,wJ,wK];exact BG c m ae ae d o N l (mt.trans (e.mut _)) (a.av e) (e.get j) p (by simp[k])
 ·have q:((G T s.at_).kind != 1)=true:=by simpa using k
  simp only[Tok.v,cd,ai,q,wE,wF,wG,wH,wI,wJ,wK];refine dZ (jR (a.av e) (B.ba.av e) 3 _) ?_;rintro _ C ⟨rfl,i⟩;refine⟨i.1,?_⟩;have h:=e.trans i;have O:=i.1;cases A:a8 T s 3 [105,110,116]with
  |true=>
   simp only[ai,tR,tS,tT,tU,tV,tW,ij];exact BG c m ae ae d o N l (mt.trans (h.mut _)) (a.av h) (h.get j) (i.get p) (by simp[A])
  |false=>
   simp only[ai,tT,tU,tV,tW,hi];refine dZ (jR (a.av h) (B.ba.av h) 3 _) ?_;rintro _ E ⟨rfl,x⟩;refine⟨x.1,?_⟩;have y:=h.trans x;simp only[ai,tR,tS];exact BG c m ae ae d o N l (mt.trans (y.mut _)) (a.av y) (y.get j) ((i.trans x).get p) (by simp[A,k])
def TX{r:Nat}{T:List Tok}{af aM:aa}{H0:ad}{s0:am}(e:cB H0 r T af aM s0){b:Nat}(w:H0.next<=b)(N:Nat)(E:3<N):
  ∀(n d:Nat),n+d=3->∀(m:Nat) (H:ad) (s:am),n<m->bs r H0 H->z H r af aM s->H.get b=I (.row X 2 [[Z [],J U 0]])->
   W (ns (al P aj) N m (.ptr r 0 0) (.ptr b 0 0) (J U d) H) λv H'=>∃p:(ay×Int)×am,p=(match fz T n d s with| .inr s'=>(([],0),s')| .inl (d,s')=>fy T d s')/\v= .agg [Z p.1.1,J U p.1.2]/\bs r H0 H'/\cB H' r T af aM p.2:=by
 intro n
 induction n with
 |zero=>
  intro d F m H s O mt c j;obtain⟨m,rfl⟩:∃k,m=k+1:=⟨m-1,ae⟩;have K:d=3:=ae;subst K;have h:=e.mut mt c;have M:=e.rd.lt;have L:=ad.aF j;simp only[ns];rw[tY];refine aA (jR c h.ba 4 [91]) ?_;rintro _ H1 ⟨rfl,a⟩;refine⟨a.1,?_⟩;have l:=a.get j;cases o:a8 T s 4 [91]with
  |true=>
   simp(disch:=try exact ah)only[ru,ai,beq_self_eq_true,Int.cast_ofNat_Int];refine aA (m3 (h.av a) 4) ?_;rintro _ ab ⟨rfl,i,S⟩;refine⟨i.1,?_⟩;have x:=i.get l ae;have ak:=ad.aF x;simp(disch:=try exact ah)only[cd,ai,x];have B:=((mt.trans (a.mut _)).trans i).bH (.inr w) (.row X 2 [[Z [],J U 0]]);refine aD.2 ⟨(([],0),bx T 4 s),by simp[fz,o],rfl,B,e.mut B ?_⟩;have:=S.rd;unfold z at this ⊢;rw[ad.get_set_other ae];exact this
  |false=>
   simp(disch:=try exact ah)only[ru,wL,ai];refine(KZ e w 3 ae N E (mt.trans (a.mut _)) (c.av a) l).mono ?_;rintro v H' ⟨rfl,aX,q⟩;exact⟨fy T 3 s,by simp[fz,o],rfl,aX,q⟩
 |succ n V=>
  intro d F m H s O mt c j;obtain⟨m,rfl⟩:∃k,m=k+1:=⟨m-1,ae⟩;have h:=e.mut mt c;have M:=e.rd.lt;have L:=ad.aF j;have an:=h.ba.one;have ap:=h.aM.one;simp only[ns];rw[tY];refine aA (jR c h.ba 4 [91]) ?_;rintro _ H1 ⟨rfl,a⟩;refine⟨a.1,?_⟩;have l:=a.get j;have y:=c.av a;have A:=y;unfold z at A;cases o:a8 T s 4 [91]with
  |true=>
   have C:((d:Int)==3)=false:=by simp;omega
   have R:IntKind.i64.wrap ((d:Int)+1)=((d+1:Nat):Int):=by rw[wrap_i64 ae ae];simp
   obtain⟨i,G⟩:=jq y (ao s);simp(disch:=try exact ah)only[ru,cd,de,ai,C,R,A];refine(V (d+1) ae m _ _ ae ((mt.trans (a.mut _)).trans i) G (i.get l ae)).mono ?_;rintro v H' ⟨p,Q,rfl,aX,q⟩;exact⟨p,by rw[Q];simp[fz,o],rfl,aX,q⟩
  |false=>
   simp(disch:=try exact ah)only[ru,wL,ai];refine(KZ e w d ae N ae (mt.trans (a.mut _)) (c.av a) l).mono ?_;rintro v H' ⟨rfl,aX,q⟩;exact⟨fy T d s,by simp[fz,o],rfl,aX,q⟩
def BH{H:ad}{r:Nat}{T:List Tok}{af aM:aa}{s:am}(a:cB H r T af aM s):W (al P aj 101 [.ptr r 0 0] H) λv H'=>v= .agg [Z (cq T s).1.1,J U (cq T s).1.2]/\bs r H H'/\cB H' r T af aM (cq T s).2:=by
 refine bt (λ_=>Vj 10) ?_;simp only[wD,bn,Cp];have p:=aw.push H (.row X 2 [[Z [],J U 0]]);refine(TX a (aV _) 10 ae 3 0 rfl 10 _ s ae (p.mut _) (a.rd.av p) (ad.a_ _ _)).mono ?_;rintro v H' ⟨q,c,rfl,aX,d⟩;have:q=cq T s:=by rw[c];rfl
 subst this;exact⟨rfl,aX,d⟩
def fQ(l:Nat)(cs:List aa)(h:cs.length=11)(a:cs.all aa.one=Y):b0 P l 96 1 [(0,.agg cs)]=I (.ax l 0 1 11 (I 1),.row X 11 [cs]):=by
 have:b0 P l 96 1 [(0,.agg cs)]=(jg 11 (xy 1 [J U 0,J U 0,Z [],Z [],J U 0,.ag,J U 0,J U 0,J U 0,J U 0,J U 0]) [(0,.agg cs)]).bind λels=>I (.ax l 0 1 11 (I 1),.row X 11 els):=M
 rw[this];simp[jg,aa.cells,h,a]
def sv(l:Nat)(cs a:List aa)(h:cs.length=11)(c:cs.all aa.one=Y)(aU:a.length=11)(d:a.all aa.one=Y):b0 P l 96 2 [(0,.agg cs),(1,.agg a)]=I (.ax l 0 2 11 (I 2),.row X 11 [cs,a]):=by
 have:b0 P l 96 2 [(0,.agg cs),(1,.agg a)]=(jg 11 (xy 2 [J U 0,J U 0,Z [],Z [],J U 0,.ag,J U 0,J U 0,J U 0,J U 0,J U 0]) [(0,.agg cs),(1,.agg a)]).bind λels=>I (.ax l 0 2 11 (I 2),.row X 11 els):=M
 rw[this];have e:xy 2 [aa.int U 0,J U 0,Z [],Z [],J U 0,.ag,J U 0,J U 0,J U 0,J U 0,J U 0]=[[aa.int U 0,J U 0,Z [],Z [],J U 0,.ag,J U 0,J U 0,J U 0,J U 0,J U 0],[aa.int U 0,J U 0,Z [],Z [],J U 0,.ag,J U 0,J U 0,J U 0,J U 0,J U 0]]:=rfl;rw[e];simp[jg,aa.cells,h,c,aU,d]
def cH.set{H:ad}{ok ok':Nat->Prop}{l:Nat}(b:b_)(h:¬ok l)(ak:∀l,ok l->ok' l):cH H ok (H.set l b) ok':=λj ro els a e=>⟨ak j a,by rw[ad.get_set_other (by rintro rfl;exact h a)];exact e⟩
def cH.jt{H:ad}{ok ok':Nat->Prop}(h:∀l,ok l->ok' l):cH H ok H ok':=λl ro els ak e=>⟨h l ak,e⟩
def cb.cells{H:ad}{ok:Nat->Prop}{e:az}{v:aa}(h:cb H ok e v):∃cs,v= .agg cs/\cs.length=11/\cs.all aa.one=true:=by
 obtain⟨k,n,nm,o,d,kv,p,t1,t2,t3,c,rfl,a⟩:=h.agg;exact⟨_,rfl,rfl,by simp only[AB,BC,eO,fk,a,wx]⟩
def cb.same{H:ad}{ok:Nat->Prop}{e:az}{v:aa}(h:cb H ok e v):aZ (I v) v=true:=by
 cases e with|mk a ks=>
 rw[gq]at h;obtain⟨kv,rfl,c⟩:=h;have:aa.beq kv kv=true:=by rcases c with⟨rfl,_⟩|⟨l,i,cap,ro,els,rfl,_⟩|⟨l,i,cap,rfl,_⟩<;>simp[aa.beq]
 simp[aZ,aa.beq,fK.beq,bY.cells,this]
def jI(ok:Nat->Prop)(H:ad)(r:Nat)(T:List Tok)(af aM:aa)(e:az)(s':am)(v:aa)(H':ad):Prop:=bs r H H'/\cB H' r T af aM s'/\cb H' ok e v
abbrev df(H:ad):=jI (aW H.next) H
def df.box{H c:ad}{r:Nat}{T:List Tok}{af aM:aa}{s s':am}{a:bY}{ks:List az}{kv:aa}{b:Nat}{lo:Nat}(h:cB H r T af aM s)(m:bs r H c)(e:z c r af aM s')(i:H.next<=b)(k:b<lo)(j:bW c (aW lo) ks kv)(d:b_):
  df H r T af aM (.mk a ks) s' (.agg (a.cells kv)) (c.set b d):=by
 have ak:=h.rd.lt;have m':=m.bH (.inr i) d;refine⟨m',h.mut m' ?_,?_⟩
 ·unfold z at e ⊢;rw[ad.get_set_other ae];exact e
 ·rw[gq];exact⟨kv,rfl,j.aP (cH.set _ (by unfold aW;omega) λl ak=>by unfold aW at*;omega)⟩
def bW.nil(H:ad)(ok:Nat->Prop):bW H ok [] .ag:= .inl ⟨rfl,rfl⟩
def NW{H:ad}{r:Nat}{T:List Tok}{af aM:aa}{s:am}(c:cB H r T af aM s):W (al P aj 188 [.ptr r 0 0] H) (df H r T af aM (mC T s).1 (mC T s).2):=by
 refine bt (λ_=>Wi 0) ?_;have ak:=c.rd.lt;have l:=c.ba.one;have m:=c.aM.one;simp(disch:=try exact ah)only[xV,cd,ai];refine aA (hK (c.rd.av (aw.push _ _)) (c.ba.av (aw.push _ _))) ?_;rintro _ k ⟨rfl,d⟩;refine⟨d.1,?_⟩;have j:=d.1;simp only[ad.bb]at j;have i:=((aw.push H _).trans d).mut (· =r);have e:=c.rd.av ((aw.push H _).trans d);unfold z at e;have h:=d.get (ad.a_ H _);cases aq:(G T s.at_).text==[116,114,117,101]with
 |true=>
  simp(disch:=try exact ah)only[py,cd,de,ai,Tok.v,e,h,aq];simp only[mC,aq,aK];refine aD.2 ?_;refine df.box (a:={kind:=2,n:=1,pos:=(G T s.at_).pos}) (kv:= .ag) (s':=ao s) (lo:=H.next+1) c ?_ ?_ ?_ ?_ (bW.nil _ _) _
  ·(repeat (first|exact i|refine bV.a1 ?_ _|refine bV.bH (S:=(· =r)) ?_ (.inl rfl) _|refine bV.bH ?_ (.inr (by(first|omega|(simp only[ad.bb,ad.cL];omega)))) _))
  ·(unfold z;simp(disch:=try exact ah)only[b7,ao])
  ·exact aV _
  ·exact gh _
 |false=>
  simp(disch:=try exact ah)only[py,cd,de,ai,Tok.v,e,h,aq];simp only[mC,aq,aH];refine aD.2 ?_;refine df.box (a:={kind:=2,n:=0,pos:=(G T s.at_).pos}) (kv:= .ag) (s':=ao s) (lo:=H.next+1) c ?_ ?_ ?_ ?_ (bW.nil _ _) _
  ·(repeat (first|exact i|refine bV.a1 ?_ _|refine bV.bH (S:=(· =r)) ?_ (.inl rfl) _|refine bV.bH ?_ (.inr (by(first|omega|(simp only[ad.bb,ad.cL];omega)))) _))
  ·(unfold z;simp(disch:=try exact ah)only[b7,ao])
  ·exact aV _
  ·exact gh _
def TQ{H:ad}{r:Nat}{T:List Tok}{af aM:aa}{s:am}(c:cB H r T af aM s):W (al P aj 189 [.ptr r 0 0] H) (df H r T af aM (q2 T s).1 (q2 T s).2):=by
 refine bt (λ_=>Wj 0) ?_;have ak:=c.rd.lt;have y:=c.ba.one;have A:=c.aM.one;simp(disch:=try exact ah)only[xW,cd,ai];refine aA (hK (c.rd.av (aw.push _ _)) (c.ba.av (aw.push _ _))) ?_;rintro _ q ⟨rfl,d⟩;refine⟨d.1,?_⟩;have o:=d.1;simp only[ad.bb]at o;have e:=((aw.push H _).trans d).mut (· =r);have l:=c.rd.av ((aw.push H _).trans d);have k:=l;unfold z at k;have m:=d.get (ad.a_ H _);obtain⟨h,n⟩:=jq l (ao s);simp(disch:=try exact ah)only[cd,de,ai,Tok.v,k];refine aA (BH (c.mut (e.trans h) n)) ?_;rintro _ w ⟨rfl,i,p⟩;refine⟨i.1,?_⟩;have j:=i.get (h.get m ae) ae;have x:=ad.aF j
 replace e:=(e.trans h).trans i;simp(disch:=try exact ah)only[cd,ai,j];refine aD.2 ?_;exact df.box (a:={kind:=3,b5:=(cq T (ao s)).1.1,ci:=(cq T (ao s)).1.2,pos:=(G T s.at_).pos}) (kv:= .ag) (lo:=H.next+1) c e p.rd (aV _) (gh _) (bW.nil _ _) _
def UL{H:ad}{r:Nat}{T:List Tok}{af aM:aa}{s:am}(c:cB H r T af aM s):W (al P aj 192 [.ptr r 0 0] H) (df H r T af aM (iW T s).1 (iW T s).2):=by
 refine bt (λ_=>Wn 0) ?_;have ak:=c.rd.lt;have K:=c.ba.one;have L:=c.aM.one;simp(disch:=try exact ah)only[xZ,cd,ai];refine aA (hK (c.rd.av (aw.push _ _)) (c.ba.av (aw.push _ _))) ?_;rintro _ A ⟨rfl,e⟩;refine⟨e.1,?_⟩;have x:=e.1;simp only[ad.bb]at x;have d:=((aw.push H _).trans e).mut (· =r);have o:=c.rd.av ((aw.push H _).trans e);have n:=o;unfold z at n;have q:=e.get (ad.a_ H _);obtain⟨i,w⟩:=jq o (ao s);simp(disch:=try exact ah)only[cd,de,ai,Tok.v,n];refine aA (v_ (c.mut (d.trans i) w) [40]) ?_;rintro _ B ⟨rfl,j,p⟩;refine⟨j.1,?_⟩;have h:=j.get (i.get q ae) ae
 have E:=ad.aF h;replace d:=(d.trans i).trans j;cases m:(cp T [40] (ao s)).1 with
 |true=>
  rw[show iW T s=(.mk {kind:=11,pos:=(G T s.at_).pos} [],(fW T [41] (cp T [40] (ao s)).2).2) by simp only[iW,m,aK]];simp(disch:=try exact ah)only[ai];refine aA (Al p [41]) ?_;rintro _ C ⟨rfl,k,y⟩;refine⟨k.1,?_⟩;have l:=k.get h ae;have F:=ad.aF l;simp(disch:=try exact ah)only[pA,cd,ai,l];refine aD.2 ?_;exact df.box (a:={kind:=11,pos:=(G T s.at_).pos}) (kv:= .ag) (lo:=H.next+1) c (d.trans k) y.rd (aV _) (gh _) (bW.nil _ _) _
 |false=>
  rw[show iW T s=(.mk {kind:=11,pos:=(G T s.at_).pos} [],(cp T [40] (ao s)).2) by simp only[iW,m,aH]];simp(disch:=try exact ah)only[pA,cd,ai,h];refine aD.2 ?_;exact df.box (a:={kind:=11,pos:=(G T s.at_).pos}) (kv:= .ag) (lo:=H.next+1) c d p.rd (aV _) (gh _) (bW.nil _ _) _
def jI.fin{ok:Nat->Prop}{H b6:ad}{r:Nat}{T:List Tok}{af aM:aa}{s s':am}{a:bY}{ks:List az}{kv:aa}(e:cB H r T af aM s)(m:bs r H b6)(c:z b6 r af aM s')(d:bW b6 ok ks kv):jI ok H r T af aM (.mk a ks) s' (.agg (a.cells kv)) b6:=
 ⟨m,e.mut m c,gq.2 ⟨kv,rfl,d⟩⟩
def bW.jw{H:ad}{ok:Nat->Prop}{L:Nat}{e:az}{cs:List aa}{cap:Option Nat}{ro:Bool}(a:H.get L=I (.row ro 11 [cs]))(ak:ok L)(h:cb H ok e (.agg cs)):bW H ok [e] (.ax L 0 1 11 cap):=by
 refine .inr (.inl ⟨L,0,cap,ro,[cs],rfl,ak,a,?_⟩);simp only[yz];rw[cU,cU];exact⟨h,trivial⟩
def bW.sA{H:ad}{ok:Nat->Prop}{L:Nat}{e f:az}{cs a:List aa}{cap:Option Nat}{ro:Bool}(c:H.get L=I (.row ro 11 [cs,a]))(ak:ok L)(h:cb H ok e (.agg cs))(aU:cb H ok f (.agg a)):bW H ok [e,f] (.ax L 0 2 11 cap):=by
 refine .inr (.inl ⟨L,0,cap,ro,[cs,a],rfl,ak,c,?_⟩);simp only[yz];rw[cU,cU,cU];exact⟨h,aU,trivial⟩
def cb.mut{H H':ad}{ok ok':Nat->Prop}{r:Nat}{e:az}{v:aa}(h:cb H ok e v)(m:bs r H H')(a:¬ok r)(ak:∀l,ok l->ok' l):cb H' ok' e v:=cb.aP (cH.mut m a ak) e v h
def cb.new{H H':ad}{ok:Nat->Prop}{n:Nat}{e:az}{v:aa}(h:cb H (aW n) e v)(m:bV (· <n) H H')(ak:∀l,n<=l->ok l):cb H' ok e v:=
 cb.aP (λl ro els a g=>⟨ak l a,m.get g (Nat.not_lt.2 a)⟩) e v h
def Hq{ok:Nat->Prop}{H0 H:ad}{r:Nat}{T:List Tok}{af aM:aa}{s0 s:am}{e:az}{cs:List aa}(c:cB H0 r T af aM s0)(A:cb H0 ok e (.agg cs))(B:cs.length=11)(F:cs.all aa.one=Y)(C:¬ok r)(E:∀l,H0.next<=l->ok l){b3 N d:Nat}{k n q pos:Int}{x:ay}(i:bs r H0 H)(w:z H r af aM s)
  (m:H.get b3=I (.row X 11 [cs])) {j:List aa} (o:H.get N=I (.row X 11 [j])) (ab:j.length=11) (p:H.get d=I (.row X 4 [[J U k,Z x,J U n,J U q]])) (K:H0.next<=b3) (L:H0.next<=N) (M:H0.next<=d) (G:b3≠N):
  W (pw (al P aj) (.ptr r 0 0) (.ptr b3 0 0) (.ptr N 0 0) (J U pos) (.ptr d 0 0) H) (jI ok H0 r T af aM (.mk {kind:=5,name:=x,pos:=pos} [e]) (ao s)):=by
 have ak:=c.rd.lt;have R:=c.ba.one;have V:=c.aM.one;have v:=w;unfold z at v;have Q:=w.lt;have dt:=ad.aF m;have eI:=ad.aF o;have an:=ad.aF p;have O:=i.1;have aq:kl 11 cs=cs:=ef ae;have au:∀l,b0 P l 96 1 [(0,.agg cs)]=I (.ax l 0 1 11 (I 1),.row X 11 [cs]):=λl=>fQ l cs B F
 have y:zA 11 j=[]:=mn ae;simp(disch:=try exact ah)only[pw,cd,de,ai,v,m,o,p,aq,au,y];refine aD.2 ?_;refine jI.fin (a:={kind:=5,name:=x,pos:=pos}) (kv:= .ax H.next 0 1 11 (I 1)) c ?_ ?_ (bW.jw (ro:=false) ?_ (E _ ae) (A.mut (r:=r) ?_ C λ_ h=>h))
 ·(repeat (first|exact i|refine bV.a1 ?_ _|refine bV.bH (S:=(· =r)) ?_ (.inl rfl) _|refine bV.bH ?_ (.inr (by(first|omega|(simp only[ad.bb,ad.cL];omega)))) _))
 ·(unfold z;simp(disch:=try exact ah)only[b7,ao])
 ·simp(disch:=try exact ah)only[b7]
 ·(repeat (first|exact i|refine bV.a1 ?_ _|refine bV.bH (S:=(· =r)) ?_ (.inl rfl) _|refine bV.bH ?_ (.inr (by(first|omega|(simp only[ad.bb,ad.cL];omega)))) _))
def Rj{ok:Nat->Prop}{H:ad}{r:Nat}{T:List Tok}{af aM:aa}{s:am}{e:az}{v:aa}(a:cB H r T af aM s)(o:cb H ok e v)(F:¬ok r)(K:∀l,H.next<=l->ok l):W (al P aj 185 [.ptr r 0 0,v] H) (jI ok H r T af aM (gu T e s).1 (gu T e s).2):=by
 refine bt (λ_=>Wf 0) ?_;obtain⟨cs,rfl,p,q⟩:=o.cells;have ak:=a.rd.lt;have au:=a.ba.one;have ay:=a.aM.one;have V:∀l,cg l (.agg cs)=I (.ptr l 0 0,.row X 11 [cs]):=λl=>by rw[ei l cs q,p]
 simp(disch:=try exact ah)only[uq,cd,ai,V];have m:=(aw.push H (.row X 11 [cs])).a1 (.row X 11 [[J U 0,J U 0,Z [],Z [],J U 0,.ag,J U 0,J U 0,J U 0,J U 0,J U 0]]);refine aA (hK (a.rd.av m) (a.ba.av m)) ?_;rintro _ x ⟨rfl,d⟩;refine⟨d.1,?_⟩;have an:=d.1;simp only[ad.bb]at an;have O:=(m.trans d).mut (· =r);have M:=a.rd.av (m.trans d);have L:=M;unfold z at L;have R:x.get H.next=I (.row X 11 [cs]):=by rw[d.2 _ (by simp only[ad.bb];omega)];simp(disch:=try exact ah)only[b7]
 have S:x.get (H.next+1)=I (.row X 11 [[J U 0,J U 0,Z [],Z [],J U 0,.ag,J U 0,J U 0,J U 0,J U 0,J U 0]]):=by rw[d.2 _ (by simp only[ad.bb];omega)];simp(disch:=try exact ah)only[b7]
 obtain⟨k,ab⟩:=jq M (ao s);simp(disch:=try exact ah)only[cd,de,ai,Tok.v,L];have w:=a.mut (O.trans k) ab;refine aA (hK w.rd w.ba) ?_;rintro _ y ⟨rfl,h⟩;refine⟨h.1,?_⟩;have ap:=h.1;simp only[ad.cL]at ap;have N:=w.av h;have Q:=(O.trans k).trans (h.mut _);have A:=h.get (k.get R ae);have B:=h.get (k.get S ae);have c:=aw.push y (.row X 4 [[J U (G T (ao s).at_).kind,Z (G T (ao s).at_).text,J U (G T (ao s).at_).n,J U (G T (ao s).at_).pos]]);have C:=ad.a_ y (.row X 4 [[J U (G T (ao s).at_).kind,Z (G T (ao s).at_).text,J U (G T (ao s).at_).n,J U (G T (ao s).at_).pos]])
 by_cases E:(G T (ao s).at_).kind=1
 ·have i:((G T (ao s).at_).kind != 1)=false:=by simpa using E
  rw[show gu T e s=(.mk {kind:=5,name:=(G T (ao s).at_).text,pos:=(G T s.at_).pos} [e],ao (ao s)) by simp only[gu,i,aH]];simp(disch:=try exact ah)only[cd,ai,Tok.v,i];exact Hq a o p q F K (Q.trans (c.mut _)) (N.rd.av c) (c.get A) (c.get B) rfl C ae ae ae ae
 ·have i:((G T (ao s).at_).kind != 1)=true:=by simpa using E
  rw[show gu T e s=(.mk {kind:=5,name:=(G T (ao s).at_).text,pos:=(G T s.at_).pos} [e],ao (bx T 2 (ao s))) by simp only[gu,i,aK]];simp(disch:=try exact ah)only[cd,ai,Tok.v,i];refine aA (m3 (N.av c) 2) ?_;rintro _ ar ⟨rfl,j,aq⟩;refine⟨j.1,?_⟩
  try simp only[uq]
  exact Hq a o p q F K ((Q.trans (c.mut _)).trans j) aq.rd (j.get (c.get A) ae) (j.get (c.get B) ae) rfl (j.get C ae) ae ae ae ae
def hc(n:Nat):Prop:=∀{H:ad} {r:Nat} {T:List Tok} {af aM:aa} {s:am},cB H r T af aM s->aM≠ .ag->∀(lev:Nat),lev<=5->∀(e:az) (s':am),fl T n lev s=I (e,s')->W (al P aj 165 [.ptr r 0 0,J U lev] H) (df H r T af aM e s')
def qi(n:Nat):Prop:=∀{H:ad} {r:Nat} {T:List Tok} {af aM:aa} {s:am},cB H r T af aM s->aM≠ .ag->∀(e:az) (s':am),i1 T n s=I (e,s')->W (al P aj 170 [.ptr r 0 0] H) (df H r T af aM e s')
def zs(n:Nat):Prop:=∀{H:ad} {r:Nat} {T:List Tok} {af aM:aa} {s:am},cB H r T af aM s->aM≠ .ag->∀(e:az) (s':am),jL T n s=I (e,s')->W (al P aj 178 [.ptr r 0 0] H) (df H r T af aM e s')
def zx(n:Nat):Prop:=∀{H:ad} {r:Nat} {T:List Tok} {af aM:aa} {s:am},cB H r T af aM s->aM≠ .ag->∀(e:az) (s':am),ic T n s=I (e,s')->W (al P aj 181 [.ptr r 0 0] H) (df H r T af aM e s')
def lK(n:Nat):Prop:=∀{H:ad} {r:Nat} {T:List Tok} {af aM:aa} {s:am},cB H r T af aM s->aM≠ .ag->∀(b c:ay) (e:az) (s':am),gm T n b c s=I (e,s')->W (al P aj 194 [.ptr r 0 0,Z b,Z c] H) (df H r T af aM e s')
def zH(n:Nat):Prop:=∀{H:ad} {r:Nat} {T:List Tok} {af aM:aa} {s:am},cB H r T af aM s->aM≠ .ag->∀(e:az) (s':am),k_ T n s=I (e,s')->W (al P aj 183 [.ptr r 0 0] H) (df H r T af aM e s')
def zB(n:Nat):Prop:=∀{H:ad} {r:Nat} {T:List Tok} {af aM:aa} {s:am},cB H r T af aM s->aM≠ .ag->∀(e:az) (s':am),kh T n s=I (e,s')->W (al P aj 190 [.ptr r 0 0] H) (df H r T af aM e s')
def zE(n:Nat):Prop:=∀{H:ad} {r:Nat} {T:List Tok} {af aM:aa} {s:am},cB H r T af aM s->aM≠ .ag->∀(l:List az) (s':am),jZ T n s=I (l,s')->W (al P aj 187 [.ptr r 0 0,.func (.func 163) [.ptr r 0 0] []] H) λv H'=>bs r H H'/\cB H' r T af aM s'/\bW H' (aW H.next) l v
structure OY(n:Nat):Prop where
 row:hc n
 unary:qi n
 chain:zs n
 first:zx n
 single:lK n
 name:zH n
 fresh:zB n
 list:zE n
def df.ret{H a:ad}{r:Nat}{T:List Tok}{af aM:aa}{s s':am}{e:az}{v:aa}{b n:Nat}(i:cB H r T af aM s)(m:bs r H a)(d:z a r af aM s')(j:H.next<=b)(k:cb a (aW n) e v)(o:b<n)(c:b_):df H r T af aM e s' v (a.set b c):=by
 have ak:=i.rd.lt;have m':=m.bH (.inr j) c;refine⟨m',i.mut m' ?_,k.new (bV.bH (S:=(· <n)) (bV.refl _ _) (.inl o) _) λl h=>by unfold aW;omega⟩;unfold z at d ⊢;rw[ad.get_set_other ae];exact d
def zn{n:Nat}(p:hc n){H:ad}{r:Nat}{T:List Tok}{af aM:aa}{s:am}(a:cB H r T af aM s)(l:aM≠ .ag){e:az}{s':am}(h:fl T n 0 s=I (e,s')):W (al P aj 163 [.ptr r 0 0] H) (df H r T af aM e s'):=by
 refine bt (λ_=>V4 0) ?_;have ak:=a.rd.lt;simp(disch:=try exact ah)only[xH,cd,ai];have j:=aw.push H (.row X 11 [[J U 0,J U 0,Z [],Z [],J U 0,.ag,J U 0,J U 0,J U 0,J U 0,J U 0]]);refine aA (p (a.av j) l 0 ae e s' h) ?_;rintro v q ⟨c,o,i⟩;refine⟨c.1,?_⟩;have d:=c.get (ad.a_ H _) ae;have w:=ad.aF d;obtain⟨cs,rfl,k,m⟩:=i.cells;have aq:kl 11 cs=cs:=ef ae;simp(disch:=try exact ah)only[ai,d,k,m,fg,aq];exact aD.2 (df.ret a ((j.mut _).trans c) o.rd (aV _) i (gh _) _)
def aaT{n:Nat}(Q:hc n):lK (n+1):=by
 intro H r T af aM s d M b c e s' h;refine bt (λ_=>Wp 0) ?_;have ak:=d.rd.lt;have E:=aw.push H (.row X 11 [[J U 0,J U 0,Z [],Z [],J U 0,.ag,J U 0,J U 0,J U 0,J U 0,J U 0]]);simp(disch:=try exact ah)only[x1,cd,ai];refine aA (v_ (d.av E) b) ?_;rintro _ F ⟨rfl,i,B⟩;refine⟨i.1,?_⟩;have j:=i.get (ad.a_ H _) ae;have V:=ad.aF j;have C:=(E.mut (· =r)).trans i;simp only[gm]at h;cases z:(cp T b s).1 with
 |false=>
  simp only[z,aH,aT,bS]at h;obtain⟨rfl,rfl⟩:=h;simp(disch:=try exact ah)only[cd,ai,hi,j];exact aD.2 (df.ret d C B.rd (aV _) (cb.leaf _ (aW (H.next+1)) {kind:=0}) (gh _) _)
 |true=>
  simp only[z,aK,ct]at h;obtain⟨⟨ap,s1⟩,G,p⟩:=h;simp only[aT,bS]at p;obtain⟨rfl,rfl⟩:=p;simp(disch:=try exact ah)only[ai,ij];refine aA (zn Q B M G) ?_;rintro v o ⟨k,O,x⟩;refine⟨k.1,?_⟩;have q:=k.get j ae;have W:=ad.aF q;obtain⟨cs,rfl,y,A⟩:=x.cells;have aq:kl 11 cs=cs:=ef ae;simp(disch:=try exact ah)only[cd,ai,y,A,fg];have m:=aw.push o (.row X 11 [cs]);refine aA (Al (O.av m) c) ?_;rintro _ R ⟨rfl,a,P⟩;refine⟨a.1,?_⟩;have w:=a.get (m.get q) ae;have aa:=ad.aF w;have K:=a.get (ad.a_ o (.row X 11 [cs])) ae;have N:=i.1;simp only[ad.bb]at N
  simp(disch:=try exact ah)only[ai,y,A,fg,aq,w,K];refine aD.2 (df.ret d (((C.trans k).trans (m.mut _)).trans a) P.rd (aV _) (n:=F.next) (x.new ?_ λ_ h=>h) ae _);exact((aw.push _ _).mut _).trans ⟨a.1,λl L S=>a.2 l L ae⟩
def abY{n:Nat}(p:lK n){H:ad}{r:Nat}{T:List Tok}{af aM:aa}{s:am}(a:cB H r T af aM s)(l:aM≠ .ag){e:az}{s':am}(h:gm T n [40] [41] s=I (e,s')):W (al P aj 193 [.ptr r 0 0] H) (df H r T af aM e s'):=by
 refine bt (λ_=>Wo 0) ?_;have ak:=a.rd.lt;simp(disch:=try exact ah)only[x0,cd,ai];have j:=aw.push H (.row X 11 [[J U 0,J U 0,Z [],Z [],J U 0,.ag,J U 0,J U 0,J U 0,J U 0,J U 0]]);refine aA (p (a.av j) l [40] [41] e s' h) ?_;rintro v q ⟨c,o,i⟩;refine⟨c.1,?_⟩;have d:=c.get (ad.a_ H _) ae;have w:=ad.aF d;obtain⟨cs,rfl,k,m⟩:=i.cells;have aq:kl 11 cs=cs:=ef ae;simp(disch:=try exact ah)only[ai,d,k,m,fg,aq];exact aD.2 (df.ret a ((j.mut _).trans c) o.rd (aV _) i (gh _) _)
def S4{n:Nat}(L:lK n){H:ad}{r:Nat}{T:List Tok}{af aM:aa}{s:am}(c:cB H r T af aM s)(B:aM≠ .ag){e:az}{s':am}(h:gm T n [40] [41] (ao s)=I (e,s')):W (al P aj 191 [.ptr r 0 0] H) (df H r T af aM (.mk {kind:=10,pos:=(G T s.at_).pos} [e]) s'):=by
 refine bt (λ_=>Wm 0) ?_;have ak:=c.rd.lt;have O:=c.ba.one;have Q:=c.aM.one;simp(disch:=try exact ah)only[xY,cd,ai];refine aA (hK (c.rd.av (aw.push _ _)) (c.ba.av (aw.push _ _))) ?_;rintro _ M ⟨rfl,i⟩;refine⟨i.1,?_⟩;have E:=i.1;simp only[ad.bb]at E;have k:=((aw.push H _).trans i).mut (· =r);have q:=c.rd.av ((aw.push H _).trans i);have d:=q;unfold z at d;have x:=i.get (ad.a_ H _);obtain⟨o,y⟩:=jq q (ao s);simp(disch:=try exact ah)only[cd,de,ai,Tok.v,d];refine aA (L (c.mut (k.trans o) y) B [40] [41] e s' h) ?_;rintro v w ⟨j,K,m⟩;refine⟨j.1,?_⟩;have p:=j.get (o.get x ae) ae
 have N:=ad.aF p;have C:=j.1;simp only[ad.cL]at C m;replace k:=(k.trans o).trans j;obtain⟨cs,rfl,A,F⟩:=m.cells;have au:∀l,b0 P l 96 1 [(0,.agg cs)]=I (.ax l 0 1 11 (I 1),.row X 11 [cs]):=λl=>fQ l cs A F
 have d:=K.rd;unfold z at d;simp(disch:=try exact ah)only[cd,ai,p,au];refine aD.2 ?_;refine jI.fin (ok:=aW H.next) (a:={kind:=10,pos:=(G T s.at_).pos}) (kv:= .ax w.next 0 1 11 (I 1)) (s':=s') c ?_ ?_ (bW.jw (ro:=false) ?_ (by unfold aW;omega) (m.new ?_ λl h=>by unfold aW;omega))
 ·(repeat (first|exact k|refine bV.a1 ?_ _|refine bV.bH (S:=(· =r)) ?_ (.inl rfl) _|refine bV.bH ?_ (.inr (by(first|omega|(simp only[ad.bb,ad.cL];omega)))) _))
 ·(unfold z;simp(disch:=try exact ah)only[b7,d])
 ·simp(disch:=try exact ah)only[b7]
 ·exact bV.bH (S:=λl=>l<_) ((bV.refl _ _).a1 _) (.inl ae) _
def SE{n:Nat}(ao:lK n){ok:Nat->Prop}{H:ad}{r:Nat}{T:List Tok}{af aM:aa}{s:am}{e:az}{v:aa}(d:cB H r T af aM s)(O:aM≠ .ag)(o:cb H ok e v)(N:¬ok r)(A:∀l,H.next<=l->ok l){aE:az}{s':am}(h:gm T n [91] [93] s=I (aE,s')):W (al P aj 186 [.ptr r 0 0,v] H) (jI ok H r T af aM (.mk {kind:=6,pos:=(G T s.at_).pos} [e,aE]) s'):=by
 refine bt (λ_=>Wg 0) ?_;obtain⟨cs,rfl,y,B⟩:=o.cells;have ak:=d.rd.lt;have aq:kl 11 cs=cs:=ef ae;have L:∀l,cg l (.agg cs)=I (.ptr l 0 0,.row X 11 [cs]):=λl=>by rw[ei l cs B,y]
 simp(disch:=try exact ah)only[xU,cd,ai,L];have k:=(aw.push H (.row X 11 [cs])).a1 (.row X 11 [[J U 0,J U 0,Z [],Z [],J U 0,.ag,J U 0,J U 0,J U 0,J U 0,J U 0]]);refine aA (hK (d.rd.av k) (d.ba.av k)) ?_;rintro _ p ⟨rfl,c⟩;refine⟨c.1,?_⟩;have Q:=c.1;simp only[ad.bb]at Q;have ab:=d.av (k.trans c);have j:=(k.trans c).mut (· =r);have q:p.get H.next=I (.row X 11 [cs]):=by rw[c.2 _ (by simp only[ad.bb];omega)];simp(disch:=try exact ah)only[b7]
 have K:p.get (H.next+1)=I (.row X 11 [[J U 0,J U 0,Z [],Z [],J U 0,.ag,J U 0,J U 0,J U 0,J U 0,J U 0]]):=by rw[c.2 _ (by simp only[ad.bb];omega)];simp(disch:=try exact ah)only[b7]
 simp(disch:=try exact ah)only[ai,Tok.v];refine aA (ao ab O [91] [93] aE s' h) ?_;rintro v E ⟨i,an,x⟩;refine⟨i.1,?_⟩;have F:=i.get q ae;have w:=i.get K ae;have ap:=ad.aF w;have ar:=i.1;replace j:=j.trans i;obtain⟨m,rfl,M,R⟩:=x.cells;have au:∀l,b0 P l 96 2 [(0,.agg cs),(1,.agg m)]=I (.ax l 0 2 11 (I 2),.row X 11 [cs,m]):=λl=>sv l cs m y B M R
 have C:=an.rd;unfold z at C;have V:=o.same;simp(disch:=try exact ah)only[cd,ai,F,w,q,au,aq,V];refine aD.2 ?_;refine jI.fin (a:={kind:=6,pos:=(G T s.at_).pos}) (kv:= .ax E.next 0 2 11 (I 2)) (s':=s') d ?_ ?_ (bW.sA (ro:=false) ?_ (A _ ae) (o.mut (r:=r) ?_ N λ_ h=>h) (x.new ?_ λl h=>A _ ae))
 ·(repeat (first|exact j|refine bV.a1 ?_ _|refine bV.bH (S:=(· =r)) ?_ (.inl rfl) _|refine bV.bH ?_ (.inr (by(first|omega|(simp only[ad.bb,ad.cL];omega)))) _))
 ·(unfold z;simp(disch:=try exact ah)only[b7,C])
 ·simp(disch:=try exact ah)only[b7]
 ·(repeat (first|exact j|refine bV.a1 ?_ _|refine bV.bH (S:=(· =r)) ?_ (.inl rfl) _|refine bV.bH ?_ (.inr (by(first|omega|(simp only[ad.bb,ad.cL];omega)))) _))
 ·exact bV.bH (S:=λl=>l<_) ((bV.refl _ _).a1 _) (.inl ae) _
def cU.append{H:ad}{ok:Nat->Prop}:∀(es:List az) (cs:List (List aa)) (e:az) (c:List aa),cU H ok es cs->cs.length=es.length->cb H ok e (.agg c)->cU H ok (es++[e]) (cs++[c])
 |[],[],e,c,_,_,h=>by
  simp only[uv];rw[cU,cU];exact⟨h,trivial⟩
 |[],_::_,e,c,_,ak,_=>by simp at ak
 |_::_,[],e,c,h,_,_=>by rw[cU]at h;exact h.elim
 |ap::es,aQ::cs,e,c,h,ak,a=>by
  rw[cU]at h;simp only[List.cons_append];rw[cU];exact⟨h.1,cU.append es cs e c h.2 (by simpa using ak) a⟩
def Oo:P.underlying 96=I (.slice 103):=M
def FM:j5 P 103=I 120:=M
def EG:fV P 103=I (.agg [J U 0,J U 0,Z [],Z [],J U 0,.ag,J U 0,J U 0,J U 0,J U 0,J U 0]):=M
def Ep{H:ad}{L:Nat}{cs:List aa}{cap:Option Nat}{ro:Bool}(a:H.get L=I (.row ro 11 [cs])):c_ P H [96,96] .ag (.ax L 0 1 11 cap)=I (.ax H.next 0 1 11 u,H.push (.row X 11 [cs])):=by
 simp[c_,Oo,ze,FM,EG,kb,iy,a,aa.cells]
def Er{H:ad}{L l n:Nat}{cs:List aa}{els:List (List aa)}{cap:Option Nat}{ro:Bool}(d:H.get L=I (.row ro 11 [cs]))(ak:H.get l=I (.row X 11 els))(e:els.length=n)(h:n<=1000000000):c_ P H [96,96] (.ax l 0 n 11 u) (.ax L 0 1 11 cap)=I (.ax H.next 0 (n+1) 11 u,(H.set l .dead).push (.row X 11 (els++[cs]))):=by
 have a:(n+1)*120<=140737488355328:=ae;have c:n+1<=9223372036854775807:=ae;simp[c_,Oo,ze,FM,EG,kb,iy,d,ak,aa.cells,e,a,c];rw[ef ae]
def RR{n:Nat}(aX:lK n):zB (n+1):=by
 intro H r T af aM s i aO e s' h;refine bt (λ_=>Wl 0) ?_;have ak:=i.rd.lt;have bd:=i.ba.one;have be:=i.aM.one;simp(disch:=try exact ah)only[ut,cd,ai];refine aA (hK (i.rd.av (aw.push _ _)) (i.ba.av (aw.push _ _))) ?_;rintro _ aY ⟨rfl,x⟩;refine⟨x.1,?_⟩;have aQ:=x.1;simp only[ad.bb]at aQ;have c:=((aw.push H _).trans x).mut (· =r);have az:=i.rd.av ((aw.push H _).trans x);have k:=az;unfold z at k;have aI:=x.get (ad.a_ H _);obtain⟨O,aJ⟩:=jq az (ao s);simp(disch:=try exact ah)only[cd,de,ai,Tok.v,k];have aS:=i.mut (c.trans O) aJ;refine aA (Dr aS 4 [91]) ?_;rintro _ aZ ⟨rfl,E,q⟩
 refine⟨E.1,?_⟩;have K:=E.get (O.get aI ae) ae;have a0:=ad.aF K;have aP:=E.1;simp only[ad.cL]at aP;replace c:=(c.trans O).trans E;simp only[kh]at h;cases A:a8 T (ao s) 4 [91]with
 |true=>
  simp only[cK,A,aK]at q ⊢;simp only[A,aK,ct]at h;obtain⟨⟨ap,s1⟩,aG,R⟩:=h;simp only[aT,bS]at R;obtain⟨rfl,rfl⟩:=R;simp(disch:=try exact ah)only[ai];refine aA (BH q) ?_;rintro _ m ⟨rfl,Q,C⟩;refine⟨Q.1,?_⟩;have p:=Q.get K ae;have aL:=ad.aF p;simp(disch:=try exact ah)only[cd,ai];have d:=aw.push m (.row X 2 [[Z (cq T (ao (ao s))).1.1,J U (cq T (ao (ao s))).1.2]]);have B:=ad.a_ m (.row X 2 [[Z (cq T (ao (ao s))).1.1,J U (cq T (ao (ao s))).1.2]]);refine aA (DO (C.av d) [93]) ?_;rintro _ aC ⟨rfl,j,N⟩;refine⟨j.1,?_⟩;have aa:=j.get (d.get p) ae;have M:=j.get B ae;have a3:=ad.aF aa
  have a6:=ad.aF M;simp(disch:=try exact ah)only[ai];refine aA (aX N aO [40] [41] ap s1 aG) ?_;rintro v aE ⟨w,aU,an⟩;refine⟨w.1,?_⟩;have ab:=w.get aa ae;have ay:=w.get M ae;have a4:=ad.aF ab;have a7:=ad.aF ay;have bc:=w.1;obtain⟨cs,rfl,aN,aR⟩:=an.cells;have au:∀l,b0 P l 96 1 [(0,.agg cs)]=I (.ax l 0 1 11 (I 1),.row X 11 [cs]):=λl=>fQ l cs aN aR
  replace c:=(((c.trans Q).trans (d.mut _)).trans j).trans w;have k:=aU.rd;unfold z at k;simp(disch:=try exact ah)only[cd,ai,au,ab,ay,M];refine aD.2 ?_;refine jI.fin (ok:=aW H.next) (a:={kind:=9,b5:=(cq T (ao (ao s))).1.1,ci:=(cq T (ao (ao s))).1.2,pos:=(G T s.at_).pos}) (kv:= .ax aE.next 0 1 11 (I 1)) (s':=s1) i ?_ ?_ (bW.jw (ro:=false) ?_ (by unfold aW;omega) (an.new ?_ λl h=>by unfold aW;omega))
  ·(repeat (first|exact c|refine bV.a1 ?_ _|refine bV.bH (S:=(· =r)) ?_ (.inl rfl) _|refine bV.bH ?_ (.inr (by(first|omega|(simp only[ad.bb,ad.cL];omega)))) _))
  ·(unfold z;simp(disch:=try exact ah)only[b7,k,ao])
  ·simp(disch:=try exact ah)only[b7]
  ·exact bV.bH (S:=λl=>l<_) ((bV.refl _ _).a1 _) (.inl ae) _
 |false=>
  simp only[cK,A,aH]at q ⊢;simp only[A,aH,aT,bS]at h;obtain⟨rfl,rfl⟩:=h;simp(disch:=try exact ah)only[ai];refine aA (hK q.rd q.ba) ?_;rintro _ m ⟨rfl,y⟩;refine⟨y.1,?_⟩;have p:=y.get K;have C:=q.av y;have aL:=ad.aF p;have d:=aw.push m (.row X 4 [[J U (G T (ao s).at_).kind,Z (G T (ao s).at_).text,J U (G T (ao s).at_).n,J U (G T (ao s).at_).pos]]);have B:=ad.a_ m (.row X 4 [[J U (G T (ao s).at_).kind,Z (G T (ao s).at_).text,J U (G T (ao s).at_).n,J U (G T (ao s).at_).pos]]);have fin:∀(o:ad) (F:am),bs r H o->z o r af aM F->o.get H.next=I (.row X 11 [[J U 0,J U 0,Z [],Z [],J U 0,.ag,J U 0,J U 0,J U 0,J U 0,J U 0]])->o.get m.next=I (.row X 4 [[J U (G T (ao s).at_).kind,Z (G T (ao s).at_).text,J U (G T (ao s).at_).n,J U (G T (ao s).at_).pos]])->
    W (pz (al P aj) (.ptr r 0 0) (.ptr H.next 0 0) (J U (G T s.at_).pos) (.ptr m.next 0 0) o) (df H r T af aM (.mk {kind:=8,b5:=(G T (ao s).at_).text,pos:=(G T s.at_).pos} []) (ao F)):=by
   intro o F c aB V ar;have k:=aB;unfold z at k;have a9:=aB.lt;have a2:=ad.aF V;have a5:=ad.aF ar;simp(disch:=try exact ah)only[pz,cd,de,ai,k,V,ar];refine aD.2 ?_;refine df.box (a:={kind:=8,b5:=(G T (ao s).at_).text,pos:=(G T s.at_).pos}) (kv:= .ag) (s':=ao F) (lo:=H.next+1) i ?_ ?_ (aV _) (gh _) (bW.nil _ _) _
   ·(repeat (first|exact c|refine bV.a1 ?_ _|refine bV.bH (S:=(· =r)) ?_ (.inl rfl) _|refine bV.bH ?_ (.inr (by(first|omega|(simp only[ad.bb,ad.cL];omega)))) _))
   ·(unfold z;simp(disch:=try exact ah)only[b7,ao])
  by_cases aq:(G T (ao s).at_).kind=1
  ·have L:((G T (ao s).at_).kind != 1)=false:=by simpa using aq
   simp(disch:=try exact ah)only[cd,ai,Tok.v,L];exact fin _ _ ((c.trans (y.mut _)).trans (d.mut _)) (C.rd.av d) (d.get p) B
  ·have L:((G T (ao s).at_).kind != 1)=true:=by simpa using aq
   simp(disch:=try exact ah)only[cd,ai,Tok.v,L];refine aA (m3 (C.av d) 2) ?_;rintro _ aC ⟨rfl,j,N⟩;refine⟨j.1,?_⟩
   try simp only[ut]
   exact fin _ _ (((c.trans (y.mut _)).trans (d.mut _)).trans j) N.rd (j.get (d.get p) ae) (j.get B ae)
def kO(call:e)(H:ad)(f:Nat)(a c d:List aa)(k:aa->ad->O):jG call H (.func (.func f) a c) d k=i H (call f (a++d++c) H) k:=rfl
def JT{n:Nat}{H0 H:ad}{r:Nat}{T:List Tok}{af aM:aa}{s0 s:am}(c:cB H0 r T af aM s0)(d:bs r H0 H)(i:z H r af aM s){l:List az}{v:aa}(e:bW H (aW H0.next) l v):
  W (l_ (al P aj) n (.ptr r 0 0) v H) λv H'=>bs r H0 H'/\cB H' r T af aM (fW T [41] s).2/\bW H' (aW H0.next) l v:=by
 have ak:=c.rd.lt;rw[l_];refine aA (Al (c.mut d i) [41]) ?_;rintro _ H1 ⟨rfl,a,j⟩;refine⟨a.1,?_⟩
 try simp only[us,ur]
 exact aD.2 ⟨d.trans a,j,e.aP (cH.mut a (by unfold aW;omega) λ_ h=>h)⟩
def JU{N:Nat}(R:∀k,k<N->hc k){H0:ad}{r:Nat}{T:List Tok}{af aM:aa}{s0:am}(w:cB H0 r T af aM s0)(M:aM≠ .ag):
  ∀(n m:Nat),n<N->n<m->∀(H:ad) (s:am) (l:List az) (L:Nat) (els:List (List aa)),bs r H0 H->z H r af aM s->l.length+n<=1000000000->H.get L=I (.row X 11 els)->H0.next<=L->els.length=l.length->
   cU H (λk=>H0.next<=k/\k≠L) l els->∀(l':List az) (s':am),hg T n l s=I (l',s')->
   W (px (al P aj) N m (.ptr r 0 0) (.func (.func 163) [.ptr r 0 0] []) (.ax L 0 l.length 11 u) H) λv H'=>bs r H0 H'/\cB H' r T af aM s'/\bW H' (aW H0.next) l' v
 |0,m,C,O,H,s,l,L,els,e,B,K,q,p,i,y,l',s',h=>by simp[hg]at h
 |n+1,0,C,O,H,s,l,L,els,e,B,K,q,p,i,y,l',s',h=>ae
 |n+1,m+1,C,O,H,s,l,L,els,e,B,K,q,p,i,y,l',s',h=>by
  have ak:=w.rd.lt;have aD:=ad.aF q;have aI:=e.1;simp only[hg]at h;simp only[px];rw[us];refine aA (Dr (w.mut e B) 4 [44]) ?_;rintro _ H1 ⟨rfl,d,Q⟩;refine⟨d.1,?_⟩;have A:=d.get q ae;have aE:=ad.aF A;have F:=y.aP (cH.mut d ae λ_ h=>h) l els;cases aq:(cK T 4 [44] s).1 with
  |false=>
   simp only[aq,aH,aT,bS]at h;obtain⟨rfl,rfl⟩:=h;simp only[ai];refine JT w (e.trans d) Q.rd (.inr (.inl ⟨L,0,u,X,els,rfl,p,A,?_⟩));rw[yz];exact F.aP (cH.jt λ_ h=>h.1) l els
  |true=>
   simp only[aq,aK,ct]at h;obtain⟨⟨ap,s1⟩,S,V⟩:=h;simp only[ai,kO,fg];refine aA (zn (R n ae) Q M S) ?_;rintro v a ⟨o,av,E⟩;refine⟨o.1,?_⟩;have G:=o.get A ae;have aG:=ad.aF G;have aJ:=d.1;have aL:=o.1;have ah:=F.aP (cH.mut o ae λ_ h=>h) l els;obtain⟨cs,rfl,an,ar⟩:=E.cells;have au:∀l,b0 P l 96 1 [(0,.agg cs)]=I (.ax l 0 1 11 (I 1),.row X 11 [cs]):=λl=>fQ l cs an ar
   simp only[ai,au];have aB:=aw.push a (.row X 11 [cs]);rw[Er (ad.a_ a (.row X 11 [cs])) (aB.get G) i ae,gF (by simp only[ad.bb,ad.cL];omega)];simp only[ad.bb];have ao:l.length+1=(l++[ap]).length:=by simp
   rw[ao];have x:∀k,k<a.next->k≠L->(((a.push (.row X 11 [cs])).set L .dead).push (.row X 11 (els++[cs]))).get k=a.get k:=λk j aC=>by
    rw[ad.dv (by simp only[ad.bb,ad.cL];omega),ad.get_set_other ae,ad.dv ae]
   have ay:bs r H0 (((a.push (.row X 11 [cs])).set L .dead).push (.row X 11 (els++[cs]))):=(((e.trans d).trans o).a1 _|>.bH (.inr p) _).a1 _;refine JU R w M n m ae ae _ s1 (l++[ap]) (a.next+1) (els++[cs]) ay ?_ (by simp;omega) ?_ ae (by simp[i]) ?_ l' s' V
   ·have:=av.rd;unfold z at this ⊢;rw[x r ae ae];exact this
   ·exact ad.m7 (by simp only[ad.bb,ad.cL];omega) (by simp only[ad.bb,ad.cL];omega)
   ·refine cU.append l els ap cs ?_ i ?_
    ·exact ah.aP (λk ro es j c=>⟨⟨j.1,by have:=ad.aF c;omega⟩,by rw[x k (ad.aF c) j.2];exact c⟩) l els
    ·exact E.aP (λk ro es j c=>by
      have ab:=ad.aF c;unfold aW at j;exact⟨⟨ae,ae⟩,by rw[x k ab ae];exact c⟩) ap _
def Ta{n:Nat}(S:n<=900000000)(A:∀k,k<=n->hc k):zE (n+1):=by
 intro H r T af aM s a x l s' h;refine bt (λ_=>Wh (n+1)) ?_;have ak:=a.rd.lt;simp only[jZ]at h;rw[ur];refine aA (v_ a [40]) ?_;rintro _ H1 ⟨rfl,d,c⟩;refine⟨d.1,?_⟩;cases y:(cp T [40] s).1 with
 |false=>
  simp only[y,aH,aT,bS]at h;obtain⟨rfl,rfl⟩:=h;simp only[ai,hi];exact aD.2 ⟨d,c,bW.nil _ _⟩
 |true=>
  simp only[y,aK]at h;simp only[ai,ij];refine aA (jR c.rd c.ba 4 [41]) ?_;rintro _ L ⟨rfl,e⟩;refine⟨e.1,?_⟩;have z:=c.av e;have B:=d.trans (e.mut _);cases q:a8 T (cp T [40] s).2 4 [41]with
  |true=>
   simp only[q,aK,aT,bS]at h;obtain⟨rfl,rfl⟩:=h;simp only[ai,ij];exact JT a B z.rd (bW.nil _ _)
  |false=>
   simp only[q,aH,ct]at h;obtain⟨⟨ap,s1⟩,C,E⟩:=h;simp only[ai,hi,kO,fg];refine aA (zn (A n (aV _)) z x C) ?_;rintro v i ⟨j,K,o⟩;refine⟨j.1,?_⟩;have O:=d.1;have Q:=e.1;have R:=j.1;obtain⟨cs,rfl,F,G⟩:=o.cells;have au:∀l,b0 P l 96 1 [(0,.agg cs)]=I (.ax l 0 1 11 (I 1),.row X 11 [cs]):=λl=>fQ l cs F G
   simp only[ai,au];have m:=(aw.push i (.row X 11 [cs])).a1 (.row X 11 [cs]);rw[Ep (ad.a_ i (.row X 11 [cs])),gF (by simp only[ad.bb];omega)];simp only[ad.bb];refine JU (N:=n+1) (λk w=>A k ae) a x n (n+1) ae ae _ s1 [ap] (i.next+1) [cs] ((B.trans j).trans (m.mut _)) (K.rd.av m) (by simp;omega) ?_ ae rfl ?_ l s' E
   ·exact ad.m7 (by simp only[ad.bb];omega) (by simp only[ad.bb];omega)
   ·rw[cU,cU];exact⟨o.aP (λk ro es w p=>by
     have M:=ad.aF p;unfold aW at w;exact⟨⟨ae,ae⟩,m.get p⟩) ap _,trivial⟩
def TC{n:Nat}(ap:zE n):zH (n+1):=by
 intro H r T af aM s c aj e s' h;refine bt (λ_=>Wd 0) ?_;have ak:=c.rd.lt;have az:=c.ba.one;have aB:=c.aM.one;simp(disch:=try exact ah)only[xT,cd,ai];refine aA (hK (c.rd.av (aw.push _ _)) (c.ba.av (aw.push _ _))) ?_;rintro _ w ⟨rfl,k⟩;refine⟨k.1,?_⟩;have al:=k.1;simp only[ad.bb]at al;have d:=((aw.push H _).trans k).mut (· =r);have P:=c.rd.av ((aw.push H _).trans k);have O:=P;unfold z at O;have V:=k.get (ad.a_ H _);obtain⟨p,W⟩:=jq (P.av (aw.push w (.row X 4 [[J U (G T s.at_).kind,Z (G T s.at_).text,J U (G T s.at_).n,J U (G T s.at_).pos]]))) (ao s);have am:=ad.a_ w (.row X 4 [[J U (G T s.at_).kind,Z (G T s.at_).text,J U (G T s.at_).n,J U (G T s.at_).pos]])
 have R:=aw.push w (.row X 4 [[J U (G T s.at_).kind,Z (G T s.at_).text,J U (G T s.at_).n,J U (G T s.at_).pos]]);replace d:=d.trans (R.mut _);simp(disch:=try exact ah)only[cd,de,ai,Tok.v,O];have B:=c.mut (d.trans p) W;refine aA (jR B.rd B.ba 4 [40]) ?_;rintro _ E ⟨rfl,l⟩;refine⟨l.1,?_⟩;have x:=l.get (p.get (R.get V) ae);have j:=l.get (p.get am ae);have aq:=ad.aF x;have au:=ad.aF j;have Q:=B.av l;replace d:=(d.trans p).trans (l.mut _);simp only[k_]at h;cases M:a8 T (ao s) 4 [40]with
 |false=>
  simp only[M,aH,aT,bS]at h;obtain⟨rfl,rfl⟩:=h;simp(disch:=try exact ah)only[cd,ai,hi,x,j];refine aD.2 ?_;exact df.box (a:={kind:=4,name:=(G T s.at_).text,pos:=(G T s.at_).pos}) (kv:= .ag) (lo:=H.next+1) c d Q.rd (aV _) (gh _) (bW.nil _ _) _
 |true=>
  simp only[M,aK,ct]at h;obtain⟨⟨C,s1⟩,S,K⟩:=h;simp only[aT,bS]at K;obtain⟨rfl,rfl⟩:=K;simp(disch:=try exact ah)only[ai,ij];refine aA (ap Q aj C s1 S) ?_;rintro v F ⟨q,an,N⟩;refine⟨q.1,?_⟩;have m:=q.get x ae;have o:=q.get j ae;have ar:=ad.aF m;have ay:=ad.aF o;replace d:=d.trans q;have y:∀kv:aa,bW F (aW E.next) C kv->df H r T af aM (.mk {kind:=7,name:=(G T s.at_).text,pos:=(G T s.at_).pos} C) s1 (.agg (bY.cells {kind:=7,name:=(G T s.at_).text,pos:=(G T s.at_).pos} kv)) (F.set H.next (.row X 11 [bY.cells {kind:=7,name:=(G T s.at_).text,pos:=(G T s.at_).pos} kv])):=λkv ab=>
   df.box (lo:=E.next) c d an.rd (aV _) ae ab _
  have A:=N;rcases N with⟨rfl,_⟩|⟨L,i,cap,ro,els,rfl,_⟩|⟨L,i,cap,rfl,_⟩
  ·simp(disch:=try exact ah)only[cd,ai,m,o,j];exact aD.2 (y _ A)
  ·simp(disch:=try exact ah)only[cd,ai,m,o,j];exact aD.2 (y _ A)
  ·simp(disch:=try exact ah)only[cd,ai,m,o,j];exact aD.2 (y _ A)
def DJ:P.underlying 218=I (.map 9 217):=M
def DI:P.underlying 212=I (.map 9 214):=M
def mD:P.underlying 9=I .string:=M
def EJ:fV P 217=I .nilFunc:=M
def EI:fV P 214=I .nilFunc:=M
def oP{H:ad}{l:Nat}{es:List (aa×aa)}(k:ay)(v:aa)(c:H.get l=I (.map es))(a:iN .string (Z k) es 0=I u):fr P H 218 (.map l) (Z k) v=I (H.set l (.map (es++[(Z k,v)]))):=by
 simp only[fr,DJ,mD,c,plainKey,a,if_true]
def KB{H:ad}{l:Nat}{es:List (aa×aa)}(k:ay)(v:aa)(c:H.get l=I (.map es))(a:iN .string (Z k) es 0=I u):fr P H 212 (.map l) (Z k) v=I (H.set l (.map (es++[(Z k,v)]))):=by
 simp only[fr,DI,mD,c,plainKey,a,if_true]
def fn(n:Nat):aa:= .func (.func n) [] []
def ig:List (aa×aa):=[(Z [116,114,117,101],fn 188),(Z [102,97,108,115,101],fn 188),(Z [110,117,108,108],fn 189),(Z [110,101,119],fn 190),(Z [108,101,110],fn 191),(Z [114,101,97,100],fn 192),(Z [40],fn 193)]
def ke:List (aa×aa):=[(Z [46],fn 185),(Z [91],fn 186)]
def HF(H:ad):W (al P aj 184 [] H) λv H'=>v= .map H.next/\H'=H.push (.map ig):=by
 refine bt (λ_=>We 0) ?_;simp only[j2,qc]
 try simp only[j2]
 rw[oP _ _ (ad.a_ H _) rfl,g9 (by simp),ad.hG]
 try simp only[j2]
 rw[oP _ _ (ad.a_ H _) rfl,g9 (by simp),ad.hG]
 try simp only[j2]
 rw[oP _ _ (ad.a_ H _) rfl,g9 (by simp),ad.hG]
 try simp only[j2]
 rw[oP _ _ (ad.a_ H _) rfl,g9 (by simp),ad.hG]
 try simp only[j2]
 rw[oP _ _ (ad.a_ H _) rfl,g9 (by simp),ad.hG]
 try simp only[j2]
 rw[oP _ _ (ad.a_ H _) rfl,g9 (by simp),ad.hG]
 try simp only[j2]
 rw[oP _ _ (ad.a_ H _) rfl,g9 (by simp),ad.hG]
 try simp only[j2]
 exact aD.2 ⟨rfl,rfl⟩
def Qj(H:ad):W (al P aj 182 [] H) λv H'=>v= .map H.next/\H'=H.push (.map ke):=by
 refine bt (λ_=>Wc 0) ?_;simp only[pv,qc]
 try simp only[pv]
 rw[KB _ _ (ad.a_ H _) rfl,g9 (by simp),ad.hG]
 try simp only[pv]
 rw[KB _ _ (ad.a_ H _) rfl,g9 (by simp),ad.hG]
 try simp only[pv]
 exact aD.2 ⟨rfl,rfl⟩
def ga(t:ay):List (aa×aa)->aa
 |[]=> .nilFunc
 |(Z k,v)::r=>bif t==k then v else ga t r
 |_::r=>ga t r
def vc(t:ay):∀(es:List (aa×aa)) (i:Nat),(∀e∈es,∃k,e.1= Z k)->(∃j v,iN .string (Z t) es i=I (I (j,v))/\ga t es=v)\/(iN .string (Z t) es i=I u/\ga t es= .nilFunc)
 |[],i,_=> .inr ⟨rfl,rfl⟩
 |(a,v)::es,i,h=>by
  obtain⟨k,m⟩:=h (a,v) (by simp);simp only at m;subst m;cases c:t==k with
  |true=>exact .inl ⟨i,v,by simp[iN,lS,c],by simp[ga,c]⟩
  |false=>
   rcases vc t es (i+1) (λe n=>h e (by simp[n]))with⟨j,o,d,l⟩|⟨d,l⟩
   ·exact .inl ⟨j,o,by simp[iN,lS,c,d],by simp[ga,c,l]⟩
   ·exact .inr ⟨by simp[iN,lS,c,d],by simp[ga,c,l]⟩
def JW{H:ad}{l:Nat}(t:ay)(h:H.get l=I (.map ig)):h_ P H 218 (.map l) (Z t) X=I (ga t ig):=by
 rcases vc t ig 0 (by intro e d;simp[ig]at d;rcases d with rfl|rfl|rfl|rfl|rfl|rfl|rfl<;>exact⟨_,rfl⟩)with⟨j,v,a,c⟩|⟨a,c⟩
 ·simp only[h_,DJ,mD,EJ,plainKey,if_true,h,a,c,pq,if_false]
 ·simp only[h_,DJ,mD,EJ,plainKey,if_true,h,a,c,pq,if_false]
def Tc{H:ad}{l:Nat}(t:ay)(h:H.get l=I (.map ke)):h_ P H 212 (.map l) (Z t) X=I (ga t ke):=by
 rcases vc t ke 0 (by intro e d;simp[ke]at d;rcases d with rfl|rfl<;>exact⟨_,rfl⟩)with⟨j,v,a,c⟩|⟨a,c⟩
 ·simp only[h_,DI,mD,EI,plainKey,if_true,h,a,c,pq,if_false]
 ·simp only[h_,DI,mD,EI,plainKey,if_true,h,a,c,pq,if_false]
def KN(n:Nat):w P .neq 217 Y (fn n) .nilFunc=I (D Y):=M
def TP:w P .neq 217 Y .nilFunc .nilFunc=I (D X):=M
def F2(n:Nat):w P .eql 214 Y (fn n) .nilFunc=I (D X):=M
def QX:w P .eql 214 Y .nilFunc .nilFunc=I (D Y):=M
def AD{H0 H:ad}{r:Nat}{T:List Tok}{af aM:aa}{s0 s:am}(a:cB H0 r T af aM s0)(e:bs r H0 H)(i:z H r af aM s)(h:H.get H0.next=I (.row X 11 [[J U 0,J U 0,Z [],Z [],J U 0,.ag,J U 0,J U 0,J U 0,J U 0,J U 0]])):
  W (l9 (al P aj) (.ptr r 0 0) (.ptr H0.next 0 0) H) (df H0 r T af aM .zero (bx T 2 s)):=by
 have ak:=a.rd.lt;rw[l9];refine aA (m3 (a.mut e i) 2) ?_;rintro _ H1 ⟨rfl,c,j⟩;refine⟨c.1,?_⟩;have d:=c.get h ae;have k:=ad.aF d;simp(disch:=try exact ah)only[cd,ai,d];exact aD.2 (df.ret a (e.trans c) j.rd (aV _) (cb.leaf _ (aW (H0.next+1)) {kind:=0}) (gh _) _)
def oB{H0 H:ad}{r:Nat}{T:List Tok}{af aM:aa}{s0 s:am}(c:cB H0 r T af aM s0)(h:bs r H0 H)(B:z H r af aM s)(j:H.get H0.next=I (.row X 11 [[J U 0,J U 0,Z [],Z [],J U 0,.ag,J U 0,J U 0,J U 0,J U 0,J U 0]])){b:Nat}(F:H0.next<b)(o:H.get b=I (.row X 4 [[J U (G T s.at_).kind,Z (G T s.at_).text,J U (G T s.at_).n,J U (G T s.at_).pos]]))
  {k:Nat} (x:ga (G T s.at_).text ig=fn k) (q:(((G T s.at_).kind==4)==((G T s.at_).text==[40]))=Y) {e:az} {s':am} (p:∀a,cB a r T af aM s->W (al P aj k [.ptr r 0 0] a) (df a r T af aM e s')):
  W (kD (al P aj) (.ptr r 0 0) (.ptr H0.next 0 0) (.ptr b 0 0) (D Y) H) (df H0 r T af aM e s'):=by
 have ak:=c.rd.lt;have K:=ad.aF j;have M:=ad.aF o;simp(disch:=try exact ah)only[kD,ai];refine aA (HF H) ?_;rintro _ H1 ⟨rfl,rfl⟩;refine⟨(aw.push _ _).1,?_⟩;have i:=aw.push H (.map ig);have y:=JW (G T s.at_).text (ad.a_ H (.map ig));simp(disch:=try exact ah)only[ai,o,y,x,KN,q];simp only[fn,kO,uv,fg];refine aA (p _ ((c.mut h B).av i)) ?_;rintro v E ⟨d,C,m⟩;refine⟨d.1,?_⟩;have l:=d.get (i.get j) ae;have L:=ad.aF l;obtain⟨cs,rfl,w,A⟩:=m.cells;have aq:kl 11 cs=cs:=ef ae;simp(disch:=try exact ah)only[ai,l,w,A,fg,aq];have N:=h.1;exact aD.2 (df.ret c ((h.trans (i.mut _)).trans d) C.rd (aV _) m (by simp only[ad.bb];omega) _)
def HC{H0 H:ad}{r:Nat}{T:List Tok}{af aM:aa}{s0 s:am}(h:cB H0 r T af aM s0)(l:bs r H0 H)(j:z H r af aM s)(d:H.get H0.next=I (.row X 11 [[J U 0,J U 0,Z [],Z [],J U 0,.ag,J U 0,J U 0,J U 0,J U 0,J U 0]])){b:Nat}(o:H0.next<b)(e:H.get b=I (.row X 4 [[J U (G T s.at_).kind,Z (G T s.at_).text,J U (G T s.at_).n,J U (G T s.at_).pos]]))
  (c:ga (G T s.at_).text ig= .nilFunc\/∃k,ga (G T s.at_).text ig=fn k/\(((G T s.at_).kind==4)==((G T s.at_).text==[40]))=X):
  W (kD (al P aj) (.ptr r 0 0) (.ptr H0.next 0 0) (.ptr b 0 0) (D Y) H) (df H0 r T af aM .zero (bx T 2 s)):=by
 have ak:=h.rd.lt;have p:=ad.aF d;have q:=ad.aF e;simp(disch:=try exact ah)only[kD,ai];refine aA (HF H) ?_;rintro _ H1 ⟨rfl,rfl⟩;refine⟨(aw.push _ _).1,?_⟩;have a:=aw.push H (.map ig);have i:=JW (G T s.at_).text (ad.a_ H (.map ig));rcases c with c|⟨k,c,m⟩
 ·simp(disch:=try exact ah)only[ai,e,i,c,TP];exact AD h (l.trans (a.mut _)) (j.av a) (a.get d)
 ·simp(disch:=try exact ah)only[ai,e,i,c,KN,m];exact AD h (l.trans (a.mut _)) (j.av a) (a.get d)
def eo{t x:ay}(h:¬t=x):(t==x)=false:=by simpa using h
def Te(t:ay):ga t ig= .nilFunc\/∃k,ga t ig=fn k:=by
 by_cases t1:t=[116,114,117,101]
 ·subst t1;exact .inr ⟨188,rfl⟩
 by_cases t2:t=[102,97,108,115,101]
 ·subst t2;exact .inr ⟨188,rfl⟩
 by_cases t3:t=[110,117,108,108]
 ·subst t3;exact .inr ⟨189,rfl⟩
 by_cases t4:t=[110,101,119]
 ·subst t4;exact .inr ⟨190,rfl⟩
 by_cases t5:t=[108,101,110]
 ·subst t5;exact .inr ⟨191,rfl⟩
 by_cases t6:t=[114,101,97,100]
 ·subst t6;exact .inr ⟨192,rfl⟩
 by_cases t7:t=[40]
 ·subst t7;exact .inr ⟨193,rfl⟩
 exact .inl (by simp[ga,ig,eo t1,eo t2,eo t3,eo t4,eo t5,eo t6,eo t7])
def Rz{n:Nat}(aW:zH n)(aS:zB n)(ar:lK n):zx (n+1):=by
 intro H r T af aM s c N e s' h;refine bt (λ_=>Wb 0) ?_;have ak:=c.rd.lt;have a0:=c.ba.one;have a2:=c.aM.one;have q:=aw.push H (.row X 11 [[J U 0,J U 0,Z [],Z [],J U 0,.ag,J U 0,J U 0,J U 0,J U 0,J U 0]]);simp(disch:=try exact ah)only[xS,cd,ai];refine aA (qG (c.rd.av q)) ?_;rintro _ H1 ⟨rfl,rfl⟩;refine⟨aV _,?_⟩;simp only[ic]at h;by_cases M:s.an=0
 ·rw[if_neg (by simpa using M)]at h;simp(disch:=try exact ah)only[ai,M,bne_self_eq_false];refine aA (hK (c.rd.av q) (c.ba.av q)) ?_;rintro _ C ⟨rfl,B⟩;refine⟨B.1,?_⟩;have aN:=B.1;simp only[ad.bb]at aN;have au:=(q.trans B).a1 (.row X 4 [[J U (G T s.at_).kind,Z (G T s.at_).text,J U (G T s.at_).n,J U (G T s.at_).pos]]);have o:=ad.a_ C (.row X 4 [[J U (G T s.at_).kind,Z (G T s.at_).text,J U (G T s.at_).n,J U (G T s.at_).pos]]);have l:=(aw.push C (.row X 4 [[J U (G T s.at_).kind,Z (G T s.at_).text,J U (G T s.at_).n,J U (G T s.at_).pos]])).get (B.get (ad.a_ H _))
  have d:=c.av au;have j:=au.mut (· =r);have aQ:=d.rd;unfold z at aQ;by_cases x:(G T s.at_).kind=2
  ·rw[if_pos x]at h;simp only[aT,bS]at h;obtain⟨rfl,rfl⟩:=h;have aZ:=d.rd.lt;have aI:C.get H.next=I (.row X 11 [[J U 0,J U 0,Z [],Z [],J U 0,.ag,J U 0,J U 0,J U 0,J U 0,J U 0]]):=B.get (ad.a_ H _)
   have am:=c.rd.av (q.trans B);unfold z at am;simp(disch:=try exact ah)only[cd,de,ai,Tok.v,x,beq_self_eq_true,am,aI];refine aD.2 ?_;refine df.box (a:={kind:=1,n:=(G T s.at_).n,pos:=(G T s.at_).pos}) (kv:= .ag) (s':=ao s) (lo:=H.next+1) c ?_ ?_ (aV _) (gh _) (bW.nil _ _) _
   ·rw[<-x];(repeat (first|exact j|refine bV.a1 ?_ _|refine bV.bH (S:=(· =r)) ?_ (.inl rfl) _|refine bV.bH ?_ (.inr (by(first|omega|(simp only[ad.bb,ad.cL];omega)))) _))
   ·rw[<-x];(unfold z;simp(disch:=try exact ah)only[b7,ao])
  ·rw[if_neg x]at h;have L:((G T s.at_).kind==2)=false:=by simpa using x
   by_cases K:(G T s.at_).kind=1
   ·rw[if_pos K]at h;have E:((G T s.at_).kind==1)=true:=by simpa using K
    simp(disch:=try exact ah)only[cd,ai,Tok.v,L,E];refine aA (aW d N e s' h) ?_;rintro v aX ⟨R,aR,ab⟩;refine⟨R.1,?_⟩;have aa:=R.get l ae;have aY:=ad.aF aa;obtain⟨cs,rfl,aL,aP⟩:=ab.cells;have aq:kl 11 cs=cs:=ef ae;simp(disch:=try exact ah)only[ai,aa,aL,aP,fg,aq];exact aD.2 (df.ret c (j.trans R) aR.rd (aV _) ab (by simp only[ad.bb];omega) _)
   ·rw[if_neg K]at h;have E:((G T s.at_).kind==1)=false:=by simpa using K
    by_cases O:(G T s.at_).kind=3\/(G T s.at_).kind=4
    ·rw[if_pos O]at h;have go:W (kD (al P aj) (.ptr r 0 0) (.ptr H.next 0 0) (.ptr C.next 0 0) (D Y) (C.push (.row X 4 [[J U (G T s.at_).kind,Z (G T s.at_).text,J U (G T s.at_).n,J U (G T s.at_).pos]]))) (df H r T af aM e s'):=by
      by_cases y:(G T s.at_).kind=4
      ·have m:((G T s.at_).kind==4)=true:=by simpa using y
       simp only[m,aK]at h;by_cases t7:(G T s.at_).text=[40]
       ·simp only[t7,beq_self_eq_true,aK]at h;exact oB c j d.rd l ae o (k:=193) (by rw[t7];rfl) (by simp[y,t7]) λw i=>abY ar i N h
       ·have aB:((G T s.at_).text==[40])=false:=by simpa using t7
        simp only[aB,aH,aT,bS]at h;obtain⟨rfl,rfl⟩:=h;refine HC c j d.rd l ae o ?_;rcases Te (G T s.at_).text with Q|⟨k,Q⟩
        ·exact .inl Q
        ·exact .inr ⟨k,Q,by rw[m,aB];rfl⟩
      ·have m:((G T s.at_).kind==4)=false:=by simpa using y
       simp only[m,aH]at h;have A:∀t:ay,(G T s.at_).text=t->t≠[40]->(((G T s.at_).kind==4)==((G T s.at_).text==[40]))=true:=by
        intro t aq aO;rw[m,aq,show(t==[40])=X by simpa using aO];rfl
       by_cases t1:(G T s.at_).text=[116,114,117,101]
       ·have aU:I (mC T s)=I (e,s'):=by rw[<-h];simp[t1]
        simp only[aT]at aU;refine oB c j d.rd l ae o (k:=188) (by rw[t1];rfl) (A _ t1 aC) λw i=> ?_
        have:=NW i;rw[aU]at this;exact this
       by_cases t2:(G T s.at_).text=[102,97,108,115,101]
       ·have aU:I (mC T s)=I (e,s'):=by rw[<-h];simp[t2]
        simp only[aT]at aU;refine oB c j d.rd l ae o (k:=188) (by rw[t2];rfl) (A _ t2 aC) λw i=> ?_
        have:=NW i;rw[aU]at this;exact this
       by_cases t3:(G T s.at_).text=[110,117,108,108]
       ·have aU:I (q2 T s)=I (e,s'):=by rw[<-h];simp[t3]
        simp only[aT]at aU;refine oB c j d.rd l ae o (k:=189) (by rw[t3];rfl) (A _ t3 aC) λw i=> ?_
        have:=TQ i;rw[aU]at this;exact this
       by_cases t4:(G T s.at_).text=[110,101,119]
       ·have aU:kh T n s=I (e,s'):=by rw[<-h];simp[t4]
        exact oB c j d.rd l ae o (k:=190) (by rw[t4];rfl) (A _ t4 aC) λw i=>aS i N e s' aU
       by_cases t5:(G T s.at_).text=[108,101,110]
       ·have aU:((gm T n [40] [41] (ao s)).bind λp=>I (.mk {kind:=10,pos:=(G T s.at_).pos} [p.1],p.2))=I (e,s'):=by rw[<-h];simp[t5]
        simp only[ct]at aU;obtain⟨⟨ap,s1⟩,aE,V⟩:=aU;simp only[aT,bS]at V;obtain⟨rfl,rfl⟩:=V;exact oB c j d.rd l ae o (k:=191) (by rw[t5];rfl) (A _ t5 aC) λw i=>S4 ar i N aE
       by_cases t6:(G T s.at_).text=[114,101,97,100]
       ·have aU:I (iW T s)=I (e,s'):=by rw[<-h];simp[t6]
        simp only[aT]at aU;refine oB c j d.rd l ae o (k:=192) (by rw[t6];rfl) (A _ t6 aC) λw i=> ?_
        have:=UL i;rw[aU]at this;exact this
       have aU:I (az.zero,bx T 2 s)=I (e,s'):=by rw[<-h];simp[eo t1,eo t2,eo t3,eo t4,eo t5,eo t6]
       simp only[aT,bS]at aU;obtain⟨rfl,rfl⟩:=aU;refine HC c j d.rd l ae o ?_;by_cases t7:(G T s.at_).text=[40]
       ·exact .inr ⟨193,by rw[t7];rfl,by rw[m,t7];rfl⟩
       ·exact .inl (by simp[ga,ig,eo t1,eo t2,eo t3,eo t4,eo t5,eo t6,eo t7])
     rcases O with aG|y
     ·have F:((G T s.at_).kind==3)=true:=by simpa using aG
      simp(disch:=try exact ah)only[cd,ai,Tok.v,L,E,F];exact go
     ·have F:((G T s.at_).kind==3)=false:=by simp[y]
      have m:((G T s.at_).kind==4)=true:=by simpa using y
      simp(disch:=try exact ah)only[cd,ai,Tok.v,L,E,F,m];exact go
    ·rw[if_neg O]at h;simp only[aT,bS]at h;obtain⟨rfl,rfl⟩:=h;have F:((G T s.at_).kind==3)=false:=by simp;omega
     have m:((G T s.at_).kind==4)=false:=by simp;omega
     simp(disch:=try exact ah)only[kD,cd,ai,Tok.v,L,E,F,m];exact AD c j d.rd l
 ·rw[if_pos (by simpa using M)]at h;simp only[aT,bS]at h;obtain⟨rfl,rfl⟩:=h;have aJ:(s.an != 0)=true:=by simpa using M
  simp(disch:=try exact ah)only[cd,ai,aJ];exact aD.2 ⟨q.mut _,c.av q,cb.leaf _ _ {kind:=0}⟩
def Aj{N:Nat}{H0 H:ad}{r:Nat}{T:List Tok}{af aM:aa}{s0 s:am}(k:cB H0 r T af aM s0)(q:bs r H0 H)(j:z H r af aM s){b3:Nat}{cs a:List aa}{e:az}(c:H.get H0.next=I (.row X 11 [a]))(A:a.length=11)(d:H.get b3=I (.row X 11 [cs]))(w:H0.next<b3)
  (i:cb H (λl=>H0.next<l/\l≠b3) e (.agg cs)):W (nH (al P aj) N (.ptr H0.next 0 0) (.ptr b3 0 0) H) (df H0 r T af aM e s):=by
 have ak:=k.rd.lt;have x:=ad.aF c;have y:=ad.aF d;obtain⟨v,m,o,p⟩:=i.cells;cases m;have aq:kl 11 cs=cs:=ef ae;have n:zA 11 a=[]:=mn ae;simp(disch:=try exact ah)only[nH,ai,c,d,o,p,fg,aq,n];have m':=q.bH (.inr (aV _)) (.row X 11 [cs]);refine aD.2 ⟨m',k.mut m' ?_,i.aP (cH.set _ ae λl h=>by unfold aW;omega) e _⟩;unfold z at j ⊢;rw[ad.get_set_other ae];exact j
def FT{N:Nat}(aG:∀k,k<N->lK k){H0:ad}{r:Nat}{T:List Tok}{af aM:aa}{s0:am}(w:cB H0 r T af aM s0)(aD:aM≠ .ag){b3 M:Nat}(B:H0.next<b3)(aQ:H0.next<M)(aR:M≠b3):
  ∀(n m:Nat),n<N->n<m->∀(H:ad) (s:am) (e:az) (cs A:List aa),bs r H0 H->z H r af aM s->H.get H0.next=I (.row X 11 [A])->A.length=11->H.get b3=I (.row X 11 [cs])->H.get M=I (.map ke)->
   cb H (λl=>H0.next<l/\l≠b3) e (.agg cs)->∀(i:az) (s':am),fs T n e s=I (i,s')->
   W (nI (al P aj) N m (.ptr r 0 0) (.ptr H0.next 0 0) (.ptr b3 0 0) (.map M) H) (df H0 r T af aM i s')
 |0,m,aw,aE,H,s,e,cs,A,y,j,o,x,p,O,q,i,s',h=>by simp[fs]at h
 |n+1,0,aw,aE,H,s,e,cs,A,y,j,o,x,p,O,q,i,s',h=>ae
 |n+1,m+1,aw,aE,H,s,e,cs,A,y,j,o,x,p,O,q,i,s',h=>by
  have ak:=w.rd.lt;have ah:=w.mut y j;have a4:=ad.aF p;obtain⟨a3,aS,a6,a8⟩:=q.cells;cases aS;have aq:kl 11 cs=cs:=ef ae;simp only[fs]at h;simp only[nI];rw[xQ];refine aA (qG j) ?_;rintro _ H1 ⟨rfl,rfl⟩;refine⟨aV _,?_⟩;by_cases K:s.an=0
  ·have L:(s.an==0)=true:=by simpa using K
   simp only[ai,K,bne_self_eq_false,hi];refine dZ (hK j ah.ba) ?_;rintro _ a2 ⟨rfl,a⟩;refine⟨a.1,?_⟩;cases Q:(G T s.at_).kind==4 with
   |false=>
    simp only[L,Q,Bool.and_false,aH,aT,bS]at h;obtain⟨rfl,rfl⟩:=h;simp only[ai,Tok.v,Q];exact Aj w (y.trans (a.mut _)) (j.av a) (a.get o) x (a.get p) B (q.aP (cH.av a λ_ h=>h) e _)
   |true=>
    simp only[L,Q,wx,aK]at h;simp only[ai,Tok.v,Q];refine aA (hK (j.av a) (ah.ba.av a)) ?_;rintro _ ar ⟨rfl,aJ⟩;refine⟨aJ.1,?_⟩;have c:=a.trans aJ;have V:=Tc (G T s.at_).text (c.get O);have C:=c.get p;have a5:=ad.aF C;have a7:=c.1;have S:=q.aP (cH.av c λ_ h=>h) e _;have ao:=ah.av c;have aI:=y.trans (c.mut _);have next:∀(d:ad) (v:aa) (dk:az) (R:am),jI (λl=>H0.next<l/\l≠b3) ar r T af aM dk R v d->fs T n dk R=I (i,s')->ar.next<=d.next/\W (xP (nI (al P aj) N m) (.ptr b3 0 0) (.ptr r 0 0) (.ptr H0.next 0 0) (.map M) v d) (df H0 r T af aM i s'):=by
     rintro d v dk R ⟨F,a0,aC⟩ aO;refine⟨F.1,?_⟩;obtain⟨au,rfl,aY,aZ⟩:=aC.cells;have aB:=F.get C ae;have aX:=ad.aF aB;have aU:zA 11 cs=[]:=mn ae;simp only[xP,ai,aB,aY,aZ,fg,aU];have a1:=(aI.trans F).bH (.inr (CD B)) (.row X 11 [au]);refine FT aG w aD B aQ aR n m ae ae _ R dk au A a1 ?_ ?_ x (ad.get_set_same aX) ?_ (aC.aP (cH.set _ ae λl h=>h) dk _) i s' aO
     ·have:=a0.rd;unfold z at this ⊢;rw[ad.get_set_other ae];exact this
     ·rw[ad.get_set_other ae];exact F.get (c.get o) ae
     ·rw[ad.get_set_other ae];exact F.get (c.get O) ae
    by_cases t1:(G T s.at_).text=[46]
    ·simp only[t1,beq_self_eq_true,aK]at h;have E:ga (G T s.at_).text ke=fn 185:=by rw[t1];rfl
     simp only[ai,Tok.v,V,E,F2,C,aq];simp only[fn,kO,uv,fg];refine aA (Rj (ok:=λl=>H0.next<l/\l≠b3) ao S ae (λl ak=>ae)) ?_;intro v d ab;exact next d v _ _ ab h
    ·by_cases t2:(G T s.at_).text=[91]
     ·simp only[t2,beq_self_eq_true,aK,show(([91]:ay)==[46])=X by rfl,aH,ct]at h;obtain⟨⟨ap,s1⟩,aL,aN⟩:=h;have E:ga (G T s.at_).text ke=fn 186:=by rw[t2];rfl
      simp only[ai,Tok.v,V,E,F2,C,aq];simp only[fn,kO,uv,fg];refine aA (SE (aG n ae) (ok:=λl=>H0.next<l/\l≠b3) ao aD S ae (λl ak=>ae) aL) ?_;intro v d ab;exact next d v _ _ ab aN
     ·simp only[eo t1,eo t2,aH,aT,bS]at h;obtain⟨rfl,rfl⟩:=h;have E:ga (G T s.at_).text ke= .nilFunc:=by simp[ga,ke,eo t1,eo t2]
      simp only[ai,Tok.v,V,E,QX];exact Aj w aI ao.rd (c.get o) x C B S
  ·have L:(s.an==0)=false:=by simpa using K
   have aW:(s.an != 0)=true:=by simpa using K
   simp only[L,Bool.false_and,aH,aT,bS]at h;obtain⟨rfl,rfl⟩:=h;simp only[ai,aW,ij];exact Aj w y j o x p B q
def QH{n:Nat}(E:zx n)(F:∀k,k<=n->lK k):zs (n+1):=by
 intro H r T af aM s i p e s' h;refine bt (λ_=>V_ (n+1)) ?_;have ak:=i.rd.lt;simp only[jL,ct]at h;obtain⟨⟨ap,s1⟩,w,x⟩:=h;have q:=aw.push H (.row X 11 [[J U 0,J U 0,Z [],Z [],J U 0,.ag,J U 0,J U 0,J U 0,J U 0,J U 0]]);simp(disch:=try exact ah)only[xO,cd,ai];refine aA (E (i.av q) p ap s1 w) ?_;rintro v d ⟨a,C,j⟩;refine⟨a.1,?_⟩;have A:=a.1;simp only[ad.bb]at A;obtain⟨cs,rfl,z,B⟩:=j.cells;simp(disch:=try exact ah)only[cd,ai,z,B,fg];have G:=aw.push d (.row X 11 [cs]);refine aA (Qj _) ?_;rintro _ K ⟨rfl,rfl⟩
 refine⟨(aw.push _ _).1,?_⟩;have c:=G.a1 (.map ke);simp only[ad.bb];have y:=a.get (ad.a_ H (.row X 11 [[J U 0,J U 0,Z [],Z [],J U 0,.ag,J U 0,J U 0,J U 0,J U 0,J U 0]])) ae;refine FT (N:=n+1) (λk L=>F k ae) i p (b3:=d.next) (M:=d.next+1) ae ae ae n (n+1) ae ae _ s1 ap cs _ (((q.mut _).trans a).trans (c.mut _)) (C.rd.av c) (c.get y) rfl ?_ ?_ ?_ e s' x
 ·simp(disch:=try exact ah)only[b7]
 ·simp(disch:=try exact ah)only[b7]
 ·exact j.aP (λl ro els o m=>by
   have:=ad.aF m;unfold aW at o;simp only[ad.bb]at o;exact⟨⟨ae,ae⟩,c.get m⟩) ap _
def abK{n:Nat}(an:qi n){H0 H:ad}{r:Nat}{T:List Tok}{af aM:aa}{s0 s:am}(c:cB H0 r T af aM s0)(R:aM≠ .ag)(e:bs r H0 H)(V:z H r af aM s)(O:H.get H0.next=I (.row X 11 [[J U 0,J U 0,Z [],Z [],J U 0,.ag,J U 0,J U 0,J U 0,J U 0,J U 0]])){N:Nat}(ao:H0.next<N){x:ay}{k:Int}(m:H.get N=I (.row X 2 [[Z x,J U k]]))
  {o:az} {s':am} (h:j4 T (n+1) x k s=I (o,s')):W (xL (al P aj) (.ptr N 0 0) H (.ptr r 0 0) (.ptr H0.next 0 0) (J U (G T s.at_).pos)) (df H0 r T af aM o s'):=by
 have ak:=c.rd.lt;have aJ:=c.ba.one;have aL:=c.aM.one;have ab:=c.mut e V;have aC:=e.1;have aw:=ad.aF m;simp only[j4]at h;simp(disch:=try exact ah)only[xL,ai,m];refine aA (v_ ab x) ?_;rintro _ H1 ⟨rfl,d,F⟩;refine⟨d.1,?_⟩;have j:=d.get O ae;have Q:=d.get m ae;have ar:=ad.aF j;cases B:(cp T x s).1 with
 |false=>
  simp only[B,aH,aT,bS]at h;obtain⟨rfl,rfl⟩:=h;simp(disch:=try exact ah)only[cd,ai,hi,j];exact aD.2 (df.ret c (e.trans d) F.rd (aV _) (cb.leaf _ (aW (H0.next+1)) {kind:=0}) (gh _) _)
 |true=>
  simp only[B,aK,ct]at h;obtain⟨⟨ap,s1⟩,M,p⟩:=h;simp only[aT,bS]at p;obtain⟨rfl,rfl⟩:=p;simp(disch:=try exact ah)only[ai,ij];refine aA (an F R ap s1 M) ?_;rintro v L ⟨i,K,y⟩;refine⟨i.1,?_⟩;have aG:=d.1;have aI:=i.1;have q:=i.get j ae;have w:=i.get Q ae;have av:=ad.aF q;have aB:=ad.aF w;obtain⟨cs,rfl,A,C⟩:=y.cells;have aq:kl 11 cs=cs:=ef ae;have au:∀l,b0 P l 96 1 [(0,.agg cs)]=I (.ax l 0 1 11 (I 1),.row X 11 [cs]):=λl=>fQ l cs A C
  have E:=K.rd;unfold z at E;have aE:=K.rd.lt;replace e:=(e.trans d).trans i;simp(disch:=try exact ah)only[cd,de,ai,A,C,fg,aq,au,E,q,w];refine aD.2 ?_;refine jI.fin (ok:=aW H0.next) (a:={kind:=k,pos:=(G T s.at_).pos}) (kv:= .ax (L.next+1) 0 1 11 (I 1)) (s':=dA s1) c ?_ ?_ (bW.jw (ro:=false) ?_ (by unfold aW;omega) (y.new ?_ λl h=>by unfold aW;omega))
  ·(repeat (first|exact e|refine bV.a1 ?_ _|refine bV.bH (S:=(· =r)) ?_ (.inl rfl) _|refine bV.bH ?_ (.inr (by(first|omega|(simp only[ad.bb,ad.cL];omega)))) _))
  ·(unfold z;simp(disch:=try exact ah)only[b7,dA])
  ·simp(disch:=try exact ah)only[b7]
  ·exact bV.bH (S:=λl=>l<_) ((bV.bH (S:=λl=>l<_) ((bV.refl _ _).a1 _) (.inl ae) _).a1 _) (.inl ae) _
def Oq{n N:Nat}(ah:qi n){L:aa->aa->aa->aa->aa->ad->O}{H0 H:ad}{r:Nat}{T:List Tok}{af aM:aa}{s0 s:am}(j:cB H0 r T af aM s0)(M:aM≠ .ag)(l:bs r H0 H)(c:z H r af aM s)(C:H.get H0.next=I (.row X 11 [[J U 0,J U 0,Z [],Z [],J U 0,.ag,J U 0,J U 0,J U 0,J U 0,J U 0]])){a:Nat}{els:List (List aa)}(ap:H0.next<a)(w:H.get a=I (.row X 2 els)){i:Nat}(aq:i<2){x:ay}{k:Int}(E:els[i]? =I [Z x,J U k])
  {h:az} {s':am} (ab:a8 T s 4 x=Y->j4 T (n+1) x k s=I (h,s')) (R:a8 T s 4 x=X->∀H',aw H H'->W (L (.ptr r 0 0) (.ptr H0.next 0 0) (.ax a 0 2 2 (I 2)) (J U 2) (J U ((i+1:Nat):Int)) H') (df H0 r T af aM h s')):
  W (rK (al P aj) N L (.ptr r 0 0) (.ptr H0.next 0 0) (.ax a 0 2 2 (I 2)) (J U 2) (J U (i:Int)) H) (df H0 r T af aM h s'):=by
 have ak:=j.rd.lt;have B:=j.mut l c;have ar:=ad.aF w;have au:=l.1;have G:((i:Int)<2):=ae;have K:((i:Int)<((2:Nat):Int)):=ae;have F:(0:Int)<=(i:Int):=ae;have S:((i:Int)).toNat=i:=ae;have y:bX P 200 (.ax a 0 2 2 (I 2)) (J U (i:Int))=I (.ptr a (0+((i:Int)).toNat) 0):=A1 F K;rw[S,vw]at y;simp only[xM,rK,cd,ai,G,decide_true,y,w,E];have m:=aw.push H (.row X 2 [[Z x,J U k]]);refine aA (hK (c.av m) (B.ba.av m)) ?_;rintro _ an ⟨rfl,d⟩;refine⟨d.1,?_⟩;have A:=d.get (ad.a_ H (.row X 2 [[Z x,J U k]]));have Q:=d.1;simp only[ad.bb]at Q;have o:=m.trans d
 simp only[ai,Tok.v,A];refine aA (jR (c.av o) (B.ba.av o) 4 x) ?_;rintro _ ao ⟨rfl,p⟩;refine⟨p.1,?_⟩;have e:=o.trans p;cases q:a8 T s 4 x with
 |true=>
  simp only[ai];exact abK ah j M (l.trans (e.mut _)) (c.av e) (e.get C) ae (p.get A) (ab q)
 |false=>
  have V:IntKind.i64.wrap ((i:Int)+1)=((i+1:Nat):Int):=by rw[wrap_i64 ae ae];simp
  simp only[ai,V];exact R q _ e
def abL{n:Nat}(B:∀k,k<=n->qi k)(L:zs n):qi (n+1):=by
 intro H r T af aM s a m e s' h;refine bt (λ_=>V7 3) ?_;have ak:=a.rd.lt;simp only[i1]at h;have M:=aw.push H (.row X 11 [[J U 0,J U 0,Z [],Z [],J U 0,.ag,J U 0,J U 0,J U 0,J U 0,J U 0]]);have p:=M.a1 (.row X 2 [[Z [45],J U 12],[Z [33],J U 13]]);simp(disch:=try exact ah)only[xK,cd,ai];have l:((H.push (.row X 11 [[J U 0,J U 0,Z [],Z [],J U 0,.ag,J U 0,J U 0,J U 0,J U 0,J U 0]])).push (.row X 2 [[Z [45],J U 12],[Z [33],J U 13]])).get H.next=I (.row X 11 [[J U 0,J U 0,Z [],Z [],J U 0,.ag,J U 0,J U 0,J U 0,J U 0,J U 0]]):=by simp(disch:=try exact ah)only[b7]
 have z:((H.push (.row X 11 [[J U 0,J U 0,Z [],Z [],J U 0,.ag,J U 0,J U 0,J U 0,J U 0,J U 0]])).push (.row X 2 [[Z [45],J U 12],[Z [33],J U 13]])).get (H.next+1)=I (.row X 2 [[Z [45],J U 12],[Z [33],J U 13]]):=by simp(disch:=try exact ah)only[b7]
 cases n with
 |zero=>cases c:a8 T s 4 [45]<;>cases d:a8 T s 4 [33]<;>simp[c,d,j4,jL]at h
 |succ n=>
  simp only[rM];refine Oq (B n ae) a m (p.mut _) (a.rd.av p) l ae z (i:=0) ae rfl (λc=>by rw[c]at h;exact h) λc N j=> ?_
  rw[c]at h;simp only[aH]at h;have q:=p.trans j;refine Oq (B n ae) a m (q.mut _) (a.rd.av q) (j.get l) ae (j.get z) (i:=1) ae rfl (λd=>by rw[d]at h;exact h) λd O C=> ?_
  rw[d]at h;simp only[aH]at h;have w:=q.trans C;have x:=(j.trans C).get l;have F:¬(((1+1:Nat):Int)<2):=ae;simp(disch:=try exact ah)only[rK,xM,CT,cd,ai,F,decide_false];rw[rL];refine aA (L (a.av w) m e s' h) ?_;rintro v P ⟨o,K,A⟩;refine⟨o.1,?_⟩;have y:=o.get x ae;have Q:=ad.aF y;have S:=w.1;have R:=ad.aF x;obtain⟨cs,rfl,E,G⟩:=A.cells;have aq:kl 11 cs=cs:=ef ae;simp(disch:=try exact ah)only[ai,y,E,G,fg,aq];exact aD.2 (df.ret a ((w.mut _).trans o) K.rd (aV _) A ae _)
def U9{N:Nat}{H0 H:ad}{r:Nat}{T:List Tok}{af aM:aa}{s0 s:am}(k:cB H0 r T af aM s0)(q:bs r H0 H)(j:z H r af aM s){b3:Nat}{cs a:List aa}{e:az}(c:H.get H0.next=I (.row X 11 [a]))(A:a.length=11)(d:H.get b3=I (.row X 11 [cs]))(w:H0.next<b3)
  (i:cb H (λl=>H0.next<l/\l≠b3) e (.agg cs)):W (pt (al P aj) N (.ptr H0.next 0 0) (.ptr b3 0 0) H) (df H0 r T af aM e s):=by
 have ak:=k.rd.lt;have x:=ad.aF c;have y:=ad.aF d;obtain⟨v,m,o,p⟩:=i.cells;cases m;have aq:kl 11 cs=cs:=ef ae;have n:zA 11 a=[]:=mn ae;simp(disch:=try exact ah)only[pt,ai,c,d,o,p,fg,aq,n];have m':=q.bH (.inr (aV _)) (.row X 11 [cs]);refine aD.2 ⟨m',k.mut m' ?_,i.aP (cH.set _ ae λl h=>by unfold aW;omega) e _⟩;unfold z at j ⊢;rw[ad.get_set_other ae];exact j
def Mq{N:Nat}(aG:∀k,k<N->hc k){H0:ad}{r:Nat}{T:List Tok}{af aM:aa}{s0:am}(a:cB H0 r T af aM s0)(V:aM≠ .ag){lev:Nat}(ay:lev<5){b3:Nat}(O:H0.next<b3):
  ∀(n m:Nat),n<N->n<m->∀(H:ad) (s:am) (e:az) (cs o:List aa),bs r H0 H->z H r af aM s->H.get H0.next=I (.row X 11 [o])->o.length=11->H.get b3=I (.row X 11 [cs])->
   cb H (λl=>H0.next<l/\l≠b3) e (.agg cs)->∀(p:az) (s':am),gW T n lev e s=I (p,s')->
   W (pu (al P aj) N m (.ptr r 0 0) (J U lev) (.ptr H0.next 0 0) (.ptr b3 0 0) (J U (hf T lev s)) H) (df H0 r T af aM p s')
 |0,m,ar,aB,H,s,e,cs,o,C,x,F,L,B,q,p,s',h=>by simp[gW]at h
 |n+1,0,ar,aB,H,s,e,cs,o,C,x,F,L,B,q,p,s',h=>ae
 |n+1,m+1,ar,aB,H,s,e,cs,o,C,x,F,L,B,q,p,s',h=>by
  have ak:=a.rd.lt;have a8:=a.mut C x;have bf:=ad.aF B;obtain⟨be,aS,aZ,a4⟩:=q.cells;cases aS;have aq:kl 11 cs=cs:=ef ae;have aU:zA 11 cs=[]:=mn ae;have bj:=a.ba.one;have bk:=a.aM.one;simp only[gW]at h;simp only[pu];by_cases K:hf T lev s=0
  ·rw[if_pos K]at h;simp only[aT,bS]at h;obtain⟨rfl,rfl⟩:=h;have S:(hf T lev s != 0)=false:=by simpa using K
   simp(disch:=try exact ah)only[ul,xI,CP,ai,S];exact U9 a C x F L B O q
  ·rw[if_neg K,ct]at h;obtain⟨⟨ap,s1⟩,aL,aN⟩:=h;have S:(hf T lev s != 0)=true:=by simpa using K
   simp(disch:=try exact ah)only[xI,ul,ai,S];refine aA (hK x a8.ba) ?_;rintro _ H1 ⟨rfl,i⟩;refine⟨i.1,?_⟩;have ab:=x.av i;have aC:=ab;unfold z at aC;have bh:=ab.lt;obtain⟨M,aV⟩:=jq ab (ao s);have a7:IntKind.i64.wrap ((lev:Int)+1)=((lev+1:Nat):Int):=by rw[wrap_i64 ae ae];simp
   simp(disch:=try exact ah)only[cd,de,ai,Tok.v,aC,a7];have aI:=(C.trans (i.mut _)).trans M;have a9:=a.mut aI aV;refine aA (aG n ae a9 V (lev+1) ae ap s1 aL) ?_;rintro v c ⟨y,bc,R⟩;refine⟨y.1,?_⟩;have Q:=M.get (i.get B) ae;have aw:=y.get Q ae;have bg:=ad.aF aw;have a2:=y.1;have bi:=i.1;simp only[ad.cL]at a2 R;obtain⟨A,rfl,a0,a5⟩:=R.cells;have au:∀l,b0 P l 96 2 [(0,.agg cs),(1,.agg A)]=I (.ax l 0 2 11 (I 2),.row X 11 [cs,A]):=λl=>sv l cs A aZ a4 a0 a5
   have a6:=q.same;have bd:=aI.trans y;have aX:cb c (λl=>H0.next<l/\l≠b3) e (.agg cs):=q.mut ((i.mut _|>.trans M).trans y) ae λ_ h=>h
   have aR:(H1.set r (.row X 6 [[af,J U (IntKind.i64.wrap (s.at_+1)),J U s.aY,aM,J U s.an,J U s.bl]])).get b3=I (.row X 11 [cs]):=Q;simp(disch:=try exact ah)only[cd,ai,aw,aR,aq,aU,au,a6];rw[CS];have aE:=bc.rd;have aJ:bs r H0 ((c.push (.row X 11 [cs,A])).set b3 (.row X 11 [[J U (hf T lev s),J U 0,Z [],Z [],J U 0,.ax c.next 0 2 11 (I 2),J U (G T s.at_).pos,J U 0,J U 0,J U 0,J U 0]])):=(bd.a1 _).bH (.inr (CD O)) _;have aD:z ((c.push (.row X 11 [cs,A])).set b3 (.row X 11 [[J U (hf T lev s),J U 0,Z [],Z [],J U 0,.ax c.next 0 2 11 (I 2),J U (G T s.at_).pos,J U 0,J U 0,J U 0,J U 0]])) r af aM s1:=by
    unfold z at aE ⊢;rw[ad.get_set_other ae,ad.dv ae];exact aE
   refine aA (Jk (a.mut aJ aD) V lev ay) ?_;rintro _ E ⟨rfl,j⟩;refine⟨j.1,?_⟩;simp only[CR];have aO:E.get H0.next=I (.row X 11 [o]):=by
    refine j.get ?_;rw[ad.get_set_other ae,ad.dv ae];exact y.get (M.get (i.get F) ae) ae
   have aQ:E.get b3=I (.row X 11 [bY.cells {kind:=hf T lev s,pos:=(G T s.at_).pos} (.ax c.next 0 2 11 (I 2))]):=j.get (ad.get_set_same (by simp only[ad.bb];omega));refine Mq aG a V ay O n m ae ae E s1 _ _ o (aJ.trans (j.mut _)) (aD.av j) aO L aQ ?_ p s' aN;rw[gq];have aH:∀ok:Nat->Prop,(∀l,ok l->l≠b3)->∀l ro els,ok l->c.get l=I (.row ro 11 els)->E.get l=I (.row ro 11 els):=λok a3 l ro els d w=>by
    refine j.get ?_;have:=ad.aF w;rw[ad.get_set_other (Ne.symm (a3 l d)),ad.dv ae];exact w
   refine⟨_,rfl,bW.sA (ro:=false) (j.get ?_) ⟨ae,ae⟩ (aX.aP (λl ro els d w=>⟨d,aH _ (λ_ h=>h.2) l ro els d w⟩) e _) (R.aP (λl ro els d w=> ?_) ap _)⟩
   ·rw[ad.get_set_other ae];exact ad.a_ _ _
   ·unfold aW at d;have aK:=ad.aF Q;simp only[ad.cL]at aK;exact⟨⟨ae,ae⟩,aH (λl=>H1.next<=l) (λl h=>ae) l ro els d w⟩
def Va{n:Nat}(L:∀k,k<=n->hc k)(aj:qi n):hc (n+1):=by
 intro H r T af aM s a j lev an e s' h;refine bt (λ_=>V5 (n+1)) ?_;have ak:=a.rd.lt;have m:=aw.push H (.row X 11 [[J U 0,J U 0,Z [],Z [],J U 0,.ag,J U 0,J U 0,J U 0,J U 0,J U 0]]);have aa:=a.rd.av m;unfold z at aa;have B:=a.rd;unfold z at B;have V:∃l i cap,aM= .ax l i 5 1 cap:=by
  obtain⟨l,i,cap,ro,els,rfl,_⟩:=a.aM.resolve_left j;exact⟨l,i,cap,rfl⟩
 obtain⟨ar,ao,lc,S⟩:=V;have K:bK P .empty .len [131] [aM]=I (J U 5):=by rw[S];exact Bs
 simp only[fl]at h;by_cases E:lev=5
 ·rw[if_pos E]at h;have x:((lev:Int)==5)=true:=by simp;omega
  simp(disch:=try exact ah)only[uk,cd,ai,B,K,x];refine aA (aj (a.av m) j e s' h) ?_;rintro v w ⟨c,p,d⟩;refine⟨c.1,?_⟩;have o:=c.get (ad.a_ H (.row X 11 [[J U 0,J U 0,Z [],Z [],J U 0,.ag,J U 0,J U 0,J U 0,J U 0,J U 0]])) ae;have am:=ad.aF o;obtain⟨cs,rfl,y,A⟩:=d.cells;have aq:kl 11 cs=cs:=ef ae;simp(disch:=try exact ah)only[ai,o,y,A,fg,aq];exact aD.2 (df.ret a ((m.mut _).trans c) p.rd (aV _) d (gh _) _)
 ·rw[if_neg E,ct]at h;obtain⟨⟨ap,s1⟩,Q,R⟩:=h;have x:((lev:Int)==5)=false:=by simp;omega
  have ab:IntKind.i64.wrap ((lev:Int)+1)=((lev+1:Nat):Int):=by rw[wrap_i64 ae ae];simp
  simp(disch:=try exact ah)only[uk,cd,ai,B,K,x,ab];refine aA (L n (aV _) (a.av m) j (lev+1) ae ap s1 Q) ?_;rintro v w ⟨c,p,d⟩;refine⟨c.1,?_⟩;have o:=c.get (ad.a_ H (.row X 11 [[J U 0,J U 0,Z [],Z [],J U 0,.ag,J U 0,J U 0,J U 0,J U 0,J U 0]])) ae;have W:=c.1;simp only[ad.bb]at W;obtain⟨cs,rfl,y,A⟩:=d.cells;simp(disch:=try exact ah)only[cd,ai,y,A,fg];have M:=aw.push w (.row X 11 [cs]);refine aA (Jk (p.av M) j lev ae) ?_;rintro _ O ⟨rfl,C⟩;refine⟨C.1,?_⟩;simp only[CQ];have q:=M.trans C;refine Mq (N:=n+1) (λk al=>L k ae) a j ae (b3:=w.next) ae n (n+1) ae ae O s1 ap cs _ (((m.mut _).trans c).trans (q.mut _)) (p.rd.av q) (q.get o) rfl (C.get (ad.a_ _ _)) ?_ e s' R
  exact d.aP (λl ro els G F=>by
   have:=ad.aF F;unfold aW at G;simp only[ad.bb]at G;exact⟨⟨ae,ae⟩,q.get F⟩) ap _
def Ek:∀n,n<=900000000->∀k,k<=n->OY k
 |0,_,k,c=>by
  have:k=0:=ae;subst this;exact⟨λ_ _ _ _ _ _ h=>by simp[fl]at h,λ_ _ _ _ h=>by simp[i1]at h,λ_ _ _ _ h=>by simp[jL]at h,λ_ _ _ _ h=>by simp[ic]at h,λ_ _ _ _ _ _ h=>by simp[gm]at h,
   λ_ _ _ _ h=>by simp[k_]at h,λ_ _ _ _ h=>by simp[kh]at h,λ_ _ _ _ h=>by simp[jZ]at h⟩
 |n+1,d,k,c=>by
  have a:=Ek n ae;rcases Nat.lt_or_ge k (n+1)with h|h
  ·exact a k ae
  ·have:k=n+1:=ae;subst this;exact⟨Va (λk c=>(a k c).row) (a n (aV _)).unary,abL (λk c=>(a k c).unary) (a n (aV _)).chain,QH (a n (aV _)).first λk c=>(a k c).single,
    Rz (a n (aV _)).name (a n (aV _)).fresh (a n (aV _)).single,aaT (a n (aV _)).row,TC (a n (aV _)).list,RR (a n (aV _)).single,Ta ae λk c=>(a k c).row⟩
def KC{H:ad}(a b:Int):bK P H .max [3,3] [J U a,J U b]=I (J U (if a<b then b else a)):=by
 simp only[bK,vg]
def aaX(l:Nat)(a c dt eI d:Nat):b0 P l 131 5 [(0,.ax a 0 1 2 (I 1)),(1,.ax c 0 1 2 (I 1)),(2,.ax dt 0 4 2 (I 4)),(3,.ax eI 0 2 2 (I 2)),(4,.ax d 0 3 2 (I 3))]=
 I (.ax l 0 5 1 (I 5),.row X 1 [[.ax a 0 1 2 (I 1)],[.ax c 0 1 2 (I 1)],[.ax dt 0 4 2 (I 4)],[.ax eI 0 2 2 (I 2)],[.ax d 0 3 2 (I 3)]]):=M
def S_(H:ad):W (al P aj 162 [] H) λv H'=>v≠ .ag/\oe H' v/\aw H H':=by
 refine bt (λ_=>V3 0) ?_;simp(disch:=try exact ah)only[xG,ai,aaX];refine aD.2 ⟨by simp,⟨_,_,_,_,_,rfl,ad.m7 (by simp only[ad.bb];omega) (by simp only[ad.bb];omega),?_⟩,?_⟩
 ·intro k row a
  match k,a with
  |0,a=>simp only[lW,jk,aT]at a;subst a;exact⟨_,_,_,_,_,rfl,by(simp(disch:=try exact ah)only[b7];rfl),λj e c=>by simpa using c⟩
  |1,a=>simp only[lW,jk,lm,aT]at a;subst a;exact⟨_,_,_,_,_,rfl,by(simp(disch:=try exact ah)only[b7];rfl),λj e c=>by simpa using c⟩
  |2,a=>simp only[lW,jk,lm,aT]at a;subst a;exact⟨_,_,_,_,_,rfl,by(simp(disch:=try exact ah)only[b7];rfl),λj e c=>by simpa using c⟩
  |3,a=>simp only[lW,jk,lm,aT]at a;subst a;exact⟨_,_,_,_,_,rfl,by(simp(disch:=try exact ah)only[b7];rfl),λj e c=>by simpa using c⟩
  |4,a=>simp only[lW,jk,lm,aT]at a;subst a;exact⟨_,_,_,_,_,rfl,by(simp(disch:=try exact ah)only[b7];rfl),λj e c=>by simpa using c⟩
  |k+5,a=>simp[lW]at a
 ·exact(((((aw.push _ _).a1 _).a1 _).a1 _).a1 _).a1 _
def gT(e:az)(s:am):az×Int×Int×Int:=if s.an=0 then(e,s.at_,0,0)else(.zero,0,s.an,s.bl)
def g1(at_ aY:Int):am:=⟨at_,if aY<0 then 0 else aY,0,0⟩
def Qe(af aM:aa)(c:af.one=Y)(d:aM.one=Y)(a b:Int):bA P 133 [(0,af),(1,J U a),(2,J U b),(3,aM)]=I (.agg [af,J U a,J U b,aM,J U 0,J U 0]):=by
 cases af<;>first|(cases c;done)|(cases aM<;>first|(cases d;done)|kernel_rfl)
def Qf(af:aa)(c:af.one=Y)(a:Int):bA P 133 [(0,af),(1,J U a)]=I (.agg [af,J U a,J U 0,.ag,J U 0,J U 0]):=by
 cases af<;>first|(cases c;done)|kernel_rfl
def Uh{n:Nat}(ab:n<=900000000){H:ad}{T:List Tok}{af:aa}(aq:eR H af T)(at_ aY:Int){e:az}{s':am}(h:fl T n 0 (g1 at_ aY)=I (e,s')):
  W (al P aj 153 [af,J U at_,J U aY] H) λv H'=>∃ev,v= .tuple [ev,J U (gT e s').2.1,.agg [J U (gT e s').2.2.1,J U (gT e s').2.2.2]]/\cb H' (aW H.next) (gT e s').1 ev/\aw H H':=by
 refine bt (λ_=>VV 0) ?_;have B:=aq.one;have ay:=(aw.push H (.row X 11 [[J U 0,J U 0,Z [],Z [],J U 0,.ag,J U 0,J U 0,J U 0,J U 0,J U 0]])).a1 (.row X 2 [[J U 0,J U 0]]);simp(disch:=try exact ah)only[xC,cd,ai,KC];refine aA (S_ _) ?_;rintro aM a ⟨Q,y,d⟩;refine⟨d.1,?_⟩;have C:=y.one;have M:=Qe af aM B C at_ (if aY<0 then 0 else aY);have N:∀l,cg l (.agg [af,J U at_,J U (if aY<0 then 0 else aY),aM,J U 0,J U 0])=I (.ptr l 0 0,.row X 6 [[af,J U at_,J U (if aY<0 then 0 else aY),aM,J U 0,J U 0]]):=λl=>ei l _ (by simp only[AB,BC,eO,B,C,wx])
 simp(disch:=try exact ah)only[ai,M,N];have j:=aw.push a (.row X 6 [[af,J U at_,J U (if aY<0 then 0 else aY),aM,J U 0,J U 0]]);have w:=(ay.trans d).trans j;have au:cB (a.push (.row X 6 [[af,J U at_,J U (if aY<0 then 0 else aY),aM,J U 0,J U 0]])) a.next T af aM (g1 at_ aY):=
  ⟨ad.a_ _ _,aq.av w,.inr (y.aP λl ro n els _ O=>j.get O)⟩
 refine aA (zn ((Ek n ab n (aV _)).row) au Q h) ?_;rintro v x ⟨c,s,o⟩;refine⟨c.1,?_⟩;have R:=d.1;have V:=c.1;simp only[ad.bb]at R V o;obtain⟨cs,rfl,A,E⟩:=o.cells;have ar:kl 11 cs=cs:=ef ae;simp(disch:=try exact ah)only[cd,ai,A,E,fg];have F:=aw.push x (.row X 11 [cs]);refine aA (qG (s.rd.av F)) ?_;rintro _ aB ⟨rfl,rfl⟩;refine⟨aV _,?_⟩;have q:=s.rd.av F;unfold z at q;have ao:=s.rd;unfold z at ao;have K:a.get H.next=I (.row X 11 [[J U 0,J U 0,Z [],Z [],J U 0,.ag,J U 0,J U 0,J U 0,J U 0,J U 0]]):=by rw[d.2 _ (by simp only[ad.bb];omega)];simp(disch:=try exact ah)only[b7]
 have L:a.get (H.next+1)=I (.row X 2 [[J U 0,J U 0]]):=by rw[d.2 _ (by simp only[ad.bb];omega)];simp(disch:=try exact ah)only[b7]
 have k:=c.get (j.get K) ae;have m:=c.get (j.get L) ae;have aC:=ad.aF k;have aE:=ad.aF m;have G:aw H x:=⟨by have:=w.1;simp only[ad.bb]at this;omega,λl ak=>by rw[c.2 l (by simp only[ad.bb];omega) ae];exact w.2 l ak⟩;by_cases i:s'.an=0
 ·have p:(s'.an != 0)=false:=by simpa using i
  rw[show gT e s'=(e,s'.at_,0,0) by simp[gT,i]];simp(disch:=try exact ah)only[cd,ai,p,q,k,m,A,E,fg,ar];refine aD.2 ⟨_,rfl,?_,?_⟩
  ·exact o.new (bV.bH (S:=λl=>l<_) (bV.bH (S:=λl=>l<_) ((bV.refl _ _).a1 _) (.inl ae) _) (.inl ae) _) λl h=>by unfold aW;omega
  ·exact((G.a1 _).bH (aV _) _).bH ae _
 ·have p:(s'.an != 0)=true:=by simpa using i
  rw[show gT e s'=(.zero,0,s'.an,s'.bl) by simp[gT,i]];have ap:aZ (I (.agg [J U s'.an,J U s'.bl])) (.agg [J U s'.an,J U s'.bl])=true:=by simp[aZ,aa.beq,fK.beq]
  simp(disch:=try exact ah)only[cd,ai,p,q,k,m,ap];refine aD.2 ⟨_,rfl,cb.leaf _ _ {kind:=0},?_⟩;exact((G.a1 _).bH (aV _) _).bH ae _
def h0(p:(ay×Int)×am):(ay×Int)×Int×Int×Int:=if p.2.an=0 then(p.1,p.2.at_,0,0)else(([],0),0,p.2.an,p.2.bl)
def D6{H:ad}{T:List Tok}{af:aa}(aq:eR H af T)(at_:Int):
  W (al P aj 73 [af,J U at_] H) λv H'=>v= .tuple [.agg [Z (h0 (cq T ⟨at_,0,0,0⟩)).1.1,J U (h0 (cq T ⟨at_,0,0,0⟩)).1.2],J U (h0 (cq T ⟨at_,0,0,0⟩)).2.1,.agg [J U (h0 (cq T ⟨at_,0,0,0⟩)).2.2.1,J U (h0 (cq T ⟨at_,0,0,0⟩)).2.2.2]]/\aw H H':=by
 refine bt (λ_=>Xf 0) ?_;have m:=aq.one;generalize y:cq T ⟨at_,0,0,0⟩=q;have E:=(aw.push H (.row X 2 [[Z [],J U 0]])).a1 (.row X 2 [[J U 0,J U 0]]);have s:=Qf af m at_;have w:∀l,cg l (.agg [af,J U at_,J U 0,.ag,J U 0,J U 0])=I (.ptr l 0 0,.row X 6 [[af,J U at_,J U 0,.ag,J U 0,J U 0]]):=λl=>ei l _ (by simp only[AB,BC,eO,q4,m,wx])
 simp(disch:=try exact ah)only[yH,cd,ai,s,w];have n:=E.a1 (.row X 6 [[af,J U at_,J U 0,.ag,J U 0,J U 0]]);have C:cB (((H.push (.row X 2 [[Z [],J U 0]])).push (.row X 2 [[J U 0,J U 0]])).push (.row X 6 [[af,J U at_,J U 0,.ag,J U 0,J U 0]])) (H.next+2) T af .ag ⟨at_,0,0,0⟩:=
  ⟨ad.m7 (by simp only[ad.bb];omega) (by simp only[ad.bb];omega),aq.av n,.inl rfl⟩
 refine aA (BH C) ?_;rintro _ c ⟨rfl,a,e⟩;refine⟨a.1,?_⟩;rw[y]at e ⊢;have x:=a.1;simp only[ad.bb]at x;simp(disch:=try exact ah)only[cd,ai];have o:=aw.push c (.row X 2 [[Z q.1.1,J U q.1.2]]);refine aA (qG (e.rd.av o)) ?_;rintro _ F ⟨rfl,rfl⟩;refine⟨aV _,?_⟩;have k:=e.rd.av o;unfold z at k;have A:=e.rd;unfold z at A;have h:c.get H.next=I (.row X 2 [[Z [],J U 0]]):=a.get (by simp(disch:=try exact ah)only[b7]) ae
 have i:c.get (H.next+1)=I (.row X 2 [[J U 0,J U 0]]):=a.get (by simp(disch:=try exact ah)only[b7]) ae;have G:=ad.aF h;have K:=ad.aF i;have p:aw H c:=⟨ae,λl ak=>by rw[a.2 l (by simp only[ad.bb];omega) ae];exact n.2 l ak⟩;by_cases d:q.2.an=0
 ·have j:(q.2.an != 0)=false:=by simpa using d
  rw[show h0 q=(q.1,q.2.at_,0,0) by simp[h0,d]];simp(disch:=try exact ah)only[cd,ai,j,k,h,i,fg];exact aD.2 ⟨rfl,((p.a1 _).bH (aV _) _).bH ae _⟩
 ·have j:(q.2.an != 0)=true:=by simpa using d
  rw[show h0 q=(([],0),0,q.2.an,q.2.bl) by simp[h0,d]];have B:aZ (I (.agg [J U q.2.an,J U q.2.bl])) (.agg [J U q.2.an,J U q.2.bl])=true:=by simp[aZ,aa.beq,fK.beq]
  simp(disch:=try exact ah)only[cd,ai,j,k,h,i,B];exact aD.2 ⟨rfl,((p.a1 _).bH (aV _) _).bH ae _⟩
structure bR where
 kind:Int
 name:ay:=[]
 b5:ay:=[]
 ci:Int:=0
 pos:Int:=0
 ref:Int:=0
inductive a6 where
 |mk (a:bR) (es:List az) (body els:List a6)
def a6.at(p:Int):a6->a6
 | .mk a es b c=> .mk {a with pos:=p} es b c
def az.kind:az->Int
 | .mk a _=>a.kind
def az.name:az->ay
 | .mk a _=>a.name
def eS(e:az):Bool:=e.kind != 4&&(e.kind != 5&&e.kind != 6)
def cv(T:List Tok)(s:am):az×am:=if s.an≠0 then(.zero,s)else match fl T 800000000 0 (g1 s.at_ s.aY)with
 |some (e,s')=>if s'.an=0 then(e,{s with at_:=s'.at_})else(.zero,{s with an:=s'.an,bl:=s'.bl})
 |none=>(.zero,s)
def hj(T:List Tok)(s:am):(ay×Int)×am:=if(cq T ⟨s.at_,0,0,0⟩).2.an=0 then((cq T ⟨s.at_,0,0,0⟩).1,{s with at_:=(cq T ⟨s.at_,0,0,0⟩).2.at_})else(([],0),{s with an:=(cq T ⟨s.at_,0,0,0⟩).2.an,bl:=(cq T ⟨s.at_,0,0,0⟩).2.bl})
def colonS(T:List Tok)(s:am):am:=(bD T [58] (ao (bif (G T s.at_).kind != 1 then bx T 2 s else s))).2
def fJ(T:List Tok)(s:am):(ay×ay×Int)×am:=
 if(colonS T s).an≠0 then(([],[],0),colonS T s)else(((G T s.at_).text,(hj T (colonS T s)).1),(hj T (colonS T s)).2)
def qy(T:List Tok)(s:am):a6×am:=(.mk {kind:=1,name:=(fJ T s).1.1,b5:=(fJ T s).1.2.1,ci:=(fJ T s).1.2.2} [] [] [],(bD T [59] (fJ T s).2).2)
def qW(T:List Tok)(s:am):a6×am:=(.mk {kind:=2,name:=(fJ T s).1.1,b5:=(fJ T s).1.2.1,ci:=(fJ T s).1.2.2} [(cv T (bD T [61] (fJ T s).2).2).1] [] [],(bD T [59] (cv T (bD T [61] (fJ T s).2).2).2).2)
def nn(T:List Tok)(s:am):a6×am:=bif a8 T s 4 [59]then(.mk {kind:=7} [] [] [],(bD T [59] s).2)else(.mk {kind:=7} [(cv T s).1] [] [],(bD T [59] (cv T s).2).2)
def ri(T:List Tok)(s:am):a6×am:=(.mk {kind:=8} [(cv T s).1] [] [],(bD T [59] (cv T s).2).2)
def jn(T:List Tok)(e:az)(s:am):am:=(bD T [61] (bif eS e then bx T 2 s else s)).2
def n5(T:List Tok)(e:az)(s:am):a6×am:=(bif e.kind==4 then .mk {kind:=3,name:=e.name} [(cv T (jn T e s)).1] [] []else .mk {kind:=4} [e,(cv T (jn T e s)).1] [] [],(bD T [59] (cv T (jn T e s)).2).2)
def jA(T:List Tok)(s:am):a6×am:=bif a8 T (cv T s).2 4 [61]then n5 T (cv T s).1 (cv T s).2 else(.mk {kind:=9} [(cv T s).1] [] [],(bD T [59] (bif a8 T (cv T s).2 4 [59]&&(cv T s).1.kind != 7 then bx T 2 (cv T s).2 else(cv T s).2)).2)
mutual
def iz(T:List Tok):Nat->am->V (List a6)
 |0,_=>u
 |n+1,s=>bif a8 T s 4 [123]then(if 50<=s.aY then I ([],bx T 4 s)else
  (i6 T n [] {s with at_:=dY (s.at_+1),aY:=dY (s.aY+1)}).bind λp=>I (p.1,(bD T [125] (dA p.2)).2))
  else I ([],bx T 2 s)
def i6(T:List Tok):Nat->List a6->am->V (List a6)
 |0,_,_=>u
 |n+1,l,s=>bif s.an==0&& !a8 T s 4 [125]then(n6 T n s).bind λp=>i6 T n (l++[p.1]) p.2 else I (l,s)
def n6(T:List Tok):Nat->am->V a6
 |0,_=>u
 |n+1,s=>(bif (G T s.at_).kind==3 then
  (bif (G T s.at_).text==[118,97,114]then I (qy T (ao s))
  else bif (G T s.at_).text==[108,101,116]then I (qW T (ao s))
  else bif (G T s.at_).text==[105,102]then mY T n (ao s)
  else bif (G T s.at_).text==[119,104,105,108,101]then nk T n (ao s)
  else bif (G T s.at_).text==[114,101,116,117,114,110]then I (nn T (ao s))
  else bif (G T s.at_).text==[112,114,105,110,116]then I (ri T (ao s))
  else I (jA T s))else I (jA T s)).bind λp=>I (p.1.at (G T s.at_).pos,p.2)
def mY(T:List Tok):Nat->am->V a6
 |0,_=>u
 |n+1,s=>(iz T n (cv T s).2).bind λb=>bif a8 T b.2 3 [101,108,115,101]then
  (iz T n (ao b.2)).bind λc=>I (.mk {kind:=5} [(cv T s).1] b.1 c.1,c.2)else I (.mk {kind:=5} [(cv T s).1] b.1 [],b.2)
def nk(T:List Tok):Nat->am->V a6
 |0,_=>u
 |n+1,s=>(iz T n (cv T s).2).bind λb=>I (.mk {kind:=6} [(cv T s).1] b.1 [],b.2)
end
def bM(T:List Tok)(s:am):az×am:=match dm T 800000000 0 s with
 |some p=>p
 |none=>(.zero,s)
def cT(T:List Tok)(s:am):(ay×ay×Int)×am:=(((bv T s).1,(cz T (bg T [58] (bv T s).2)).1),(cz T (bg T [58] (bv T s).2)).2)
def ji(T:List Tok)(s:am):a6×am:=(.mk {kind:=1,name:=(cT T s).1.1,b5:=(cT T s).1.2.1,ci:=(cT T s).1.2.2} [] [] [],bg T [59] (cT T s).2)
def ju(T:List Tok)(s:am):a6×am:=(.mk {kind:=2,name:=(cT T s).1.1,b5:=(cT T s).1.2.1,ci:=(cT T s).1.2.2} [(bM T (bg T [61] (cT T s).2)).1] [] [],bg T [59] (bM T (bg T [61] (cT T s).2)).2)
def iX(T:List Tok)(s:am):a6×am:=bif aS T s [59]then(.mk {kind:=7} [] [] [],bg T [59] s)else(.mk {kind:=7} [(bM T s).1] [] [],bg T [59] (bM T s).2)
def ku(T:List Tok)(s:am):a6×am:=(.mk {kind:=8} [(bM T s).1] [] [],bg T [59] (bM T s).2)
def gI(T:List Tok)(e:az)(s:am):am:=bg T [61] (bif eS e then bx T 2 s else s)
def lA(T:List Tok)(e:az)(s:am):a6×am:=(bif e.kind==4 then .mk {kind:=3,name:=e.name} [(bM T (gI T e s)).1] [] []else .mk {kind:=4} [e,(bM T (gI T e s)).1] [] [],bg T [59] (bM T (gI T e s)).2)
def fP(T:List Tok)(s:am):a6×am:=bif aS T (bM T s).2 [61]then lA T (bM T s).1 (bM T s).2 else(.mk {kind:=9} [(bM T s).1] [] [],bg T [59] (bif aS T (bM T s).2 [59]&&(bM T s).1.kind != 7 then bx T 2 (bM T s).2 else(bM T s).2))
mutual
def dU(T:List Tok):Nat->am->V (List a6)
 |0,_=>u
 |n+1,s=>(fx T n [] (cl T [123] s)).bind λp=>I (p.1,cV T [125] p.2)
def fx(T:List Tok):Nat->List a6->am->V (List a6)
 |0,_,_=>u
 |n+1,l,s=>bif s.an==0&& !aS T s [125]then(gC T n s).bind λp=>fx T n (l++[p.1]) p.2 else I (l,s)
def gC(T:List Tok):Nat->am->V a6
 |0,_=>u
 |n+1,s=>(bif aS T s [118,97,114]||aS T s [108,101,116]then I (bif (G T s.at_).text==[108,101,116]then ju T (ao s)else ji T (ao s))
  else bif aS T s [105,102]then(dU T n (bM T (ao s)).2).bind λb=>bif aS T b.2 [101,108,115,101]then
   (dU T n (ao b.2)).bind λc=>I (.mk {kind:=5} [(bM T (ao s)).1] b.1 c.1,c.2)else I (.mk {kind:=5} [(bM T (ao s)).1] b.1 [],b.2)
  else bif aS T s [119,104,105,108,101]then(dU T n (bM T (ao s)).2).bind λb=>I (.mk {kind:=6} [(bM T (ao s)).1] b.1 [],b.2)
  else bif aS T s [114,101,116,117,114,110]then I (iX T (ao s))
  else bif aS T s [112,114,105,110,116]then I (ku T (ao s))
  else I (fP T s)).bind λp=>I (p.1.at (G T s.at_).pos,p.2)
end
section
set_option maxRecDepth 100000
noncomputable section
def pF(am:e)(F:aa)(H:ad):O:=bn H [J U 0,Z [],J U 0,J U 0] λh i=>C (bd F) λaj=>C (j P 63 aj 1) λak=>C (A P i 3 ak) λaJ=>C (w P .lss 3 Y aJ (J U 0)) λa=>S a X i (bP F) λal s=>S a X s (k (bd al)) λB v=>S a X v (k (j P 63 B 1)) λE l=>S a X l (qr (A P l 3 E)) λG x=>S a X x (bP F) λK y=>S a X y (k (bd K)) λL z=>S a X z (k (j P 63 L 0)) λM m=>S a X m (qr (A P m 50 M)) λo n=>S a X n (λq=>et (bK P .empty .len [50] [o]) (bK P n .len [50] [o]) q) λN p=>S a X p (k (w P .geq 3 X G N)) λQ c=>C (bC a (I (D Y)) (I Q)) λR=>aO (I R) (aG c (aB P c 57 h (.agg [J U 0,Z [],J U 0,J U 0])) λd=>C (A P d 57 h) λr=>I (r,d)) (C (bd F) λT=>C (j P 63 T 0) λV=>C (A P c 50 V) λW=>C (bd F) λab=>C (j P 63 ab 1) λae=>C (A P c 3 ae) λaf=>C (bX P 50 W af) λah=>C (A P c 57 ah) λai=>aG c (aB P c 57 h ai) λd=>C (A P d 57 h) λr=>I (r,d))
def Wx(N:Nat){F:aa}{H:ad}{r:aa×ad}(h:pF (al P aj) F H=I r):al P aj 26 [F] H=I r:=bu N (S:=λa=>pF a F H) Tryz.func26 (λ_=>by delta pF;kernel_rfl) h
def x9(i:e)(F:aa)(H:ad):O:=C (bd F) λa=>C (j P 63 a 3) λc=>C (j P 29 c 0) λaJ=>C (A P H 27 aJ) λd=>C (w P .eql 27 Y d (J U 0)) λh=>I (h,H)
def Ww(N:Nat){F:aa}{H:ad}{r:aa×ad}(h:x9 (al P aj) F H=I r):al P aj 25 [F] H=I r:=bu N (S:=λa=>x9 a F H) Tryz.func25 (λ_=>by delta x9;kernel_rfl) h
def ya(c:e)(F y:aa)(H:ad):O:=i H (c 25 [F] H) λo a=>aO (I o) (i a (c 26 [F] a) λp d=>C (ca P 57 p 3) λk=>C (bA P 29 [(0,y),(1,k)]) λl=>C (bd F) λm=>C (j P 63 m 3) λn=>aG d (aB P d 29 n l) λh=>I (.tuple [],h)) (I (.tuple [],a))
def Wz(N:Nat){F y:aa}{H:ad}{r:aa×ad}(h:ya (al P aj) F y H=I r):al P aj 28 [F,y] H=I r:=bu N (S:=λa=>ya a F y H) Tryz.func28 (λ_=>by delta ya;kernel_rfl) h
def pG(m:e)(F y:aa)(l aJ:aa)(H:ad):O:=i H (m 25 [F] H) λa n=>S a Y n (k (j P 57 l 0)) λz d=>S a Y d (qr (A P d 3 z)) λB o=>S a Y o (bP aJ) λE p=>S a Y p (k (w P .eql 3 X B E)) λG q=>C (bC a (I G) (I (D X))) λc=>S c Y q (k (j P 57 l 1)) λK h=>S c Y h (qr (A P h 9 K)) λL s=>S c Y s (bP y) λM v=>S c Y v (k (w P .eql 9 X L M)) λN x=>C (bC c (I N) (I (D X))) λQ=>I (Q,x)
def YY(a:e)(N:Nat):∀V H,a7 P a N (L (L (L (L (n Tryz.f27))))) (p Tryz.f27) [] (p Tryz.f27) V H=pG a (V 0) (V 1) (V 5) (V 6) H:=by
 refine bm (q _) λV H=> ?_
 delta pG;kernel_rfl
def x_(c:e)(F y:aa)(H:ad):O:=i H (c 26 [F] H) λz l=>bn l [J U 0,Z [],J U 0,J U 0] λd h=>aG h (aB P h 57 d z) λm=>C (eF P 9 y (J U 0)) λp=>C (w P .geq 5 Y p (J .u8 97)) λa=>S a Y m (bP y) λq n=>S a Y n (k (eF P 9 q (J U 0))) λs o=>S a Y o (k (w P .leq 5 Y s (J .u8 122))) λv j=>C (bC a (I v) (I (D X))) λx=>aO (I x) (pG c F y d (J U 3) j) (pG c F y d (J U 4) j)
def Wy(N:Nat){F y:aa}{H:ad}{r:aa×ad}(h:x_ (al P aj) F y H=I r):al P aj 27 [F,y] H=I r:=bu N (S:=λa=>x_ a F y H) Tryz.func27 (λa=>cG ((Q M ((Q M ((Q M ((Q M (YY a N) (q _))) (q _))) (q _))) (q _))) (by delta x_;generalize pG a=c;revert c;refine id ?_;intro c;kernel_rfl)) h
def ux(d:e)(F y:aa)(H:ad):O:=i H (d 27 [F,y] H) λaJ a=>C (cI .not aJ) λp=>aO (I p) (i a (d 28 [F,J U 2] a) λq c=>I (.tuple [],c)) (C (bd F) λh=>C (j P 63 h 1) λk=>C (A P a 3 k) λl=>C (w P .add 3 Y l (J U 1)) λm=>C (bd F) λn=>C (j P 63 n 1) λo=>aG a (aB P a 3 o m) λc=>I (.tuple [],c))
def WC(N:Nat){F y:aa}{H:ad}{r:aa×ad}(h:ux (al P aj) F y H=I r):al P aj 31 [F,y] H=I r:=bu N (S:=λa=>ux a F y H) Tryz.func31 (λ_=>by delta ux;kernel_rfl) h
def yR(F m:aa)(a:ad):O:=C (bd F) λd=>C (j P 63 d 2) λe=>C (A P a 3 e) λh=>C (w P .add 3 Y h (J U 1)) λi=>C (bd F) λk=>C (j P 63 k 2) λl=>aG a (aB P a 3 l i) λc=>I (.tuple [],c)
def uK(c:e)(F y:aa)(H:ad):O:=i H (c 27 [F,y] H) λaJ h=>S aJ Y h (bP F) λx l=>S aJ Y l (k (bd x)) λz m=>S aJ Y m (k (j P 63 z 2)) λp d=>S aJ Y d (qr (A P d 3 p)) λq n=>S aJ Y n (k (w P .geq 3 Y q (J U 50))) λs a=>C (bC aJ (I s) (I (D X))) λv=>aO (I v) (i a (c 28 [F,J U 4] a) λB o=>I (.tuple [],o)) (i a (c 31 [F,y] a) (yR F))
def Xq(N:Nat){F y:aa}{H:ad}{r:aa×ad}(h:uK (al P aj) F y H=I r):al P aj 83 [F,y] H=I r:=bu N (S:=λa=>uK a F y H) Tryz.func83 (λ_=>by delta uK yR;kernel_rfl) h
def yT(c:e)(F y:aa)(H:ad):O:=i H (c 31 [F,y] H) λaJ a=>C (bd F) λn=>C (j P 63 n 2) λo=>C (A P a 3 o) λh=>C (w P .sub 3 Y h (J U 1)) λk=>C (bd F) λl=>C (j P 63 l 2) λm=>aG a (aB P a 3 m k) λd=>I (.tuple [],d)
def Xs(N:Nat){F y:aa}{H:ad}{r:aa×ad}(h:yT (al P aj) F y H=I r):al P aj 85 [F,y] H=I r:=bu N (S:=λa=>yT a F y H) Tryz.func85 (λ_=>by delta yT;kernel_rfl) h
def yw(c:aa)(a:ad):O:=some ((Z []),a)
def yv(d:e)(F:aa)(H:ad):O:=i H (d 26 [F] H) λQ p=>bn p [J U 0,Z [],J U 0,J U 0] λh l=>aG l (aB P l 57 h Q) λm=>i m (d 25 [F] m) λc q=>S c Y q (k (j P 57 h 0)) λR n=>S c Y n (qr (A P n 3 R)) λv s=>S c Y s (k (w P .eql 3 Y v (J U 1))) λx a=>C (bC c (I x) (I (D X))) λy=>aO (I y) (C (bd F) λz=>C (j P 63 z 1) λB=>C (A P a 3 B) λE=>C (w P .add 3 Y E (J U 1)) λG=>C (bd F) λK=>C (j P 63 K 1) λL=>aG a (aB P a 3 L G) λo=>C (j P 57 h 1) λM=>C (A P o 9 M) λN=>I (N,o)) (i a (d 28 [F,J U 2] a) (yw))
def W3(N:Nat){F:aa}{H:ad}{r:aa×ad}(h:yv (al P aj) F H=I r):al P aj 59 [F] H=I r:=bu N (S:=λa=>yv a F H) Tryz.func59 (λ_=>by delta yv yw;kernel_rfl) h
def pP(i:e)(N:Nat)(c d:aa)(H:ad):O:=C (A P H 43 d) λh=>aG H (aB P H 43 c h) λa=>C (A P a 43 c) λr=>I (r,a)
def ZD(a:e)(N:Nat):∀V H,a7 P a N (L (L (L (L (L (L (n Tryz.f60))))))) (p Tryz.f60) [] (p Tryz.f60) V H=pP a N (V 2) (V 4) H:=by
 refine bm (q _) λV H=> ?_
 delta pP;kernel_rfl
def r6(a:e)(N:Nat)(k:aa->aa->aa->aa->aa->ad->O)(F c:aa)(d h j:aa)(H:ad):O:=C (w P .lss 3 X j d) λm=>aO (I m) (i H (a 31 [F,Z [93]] H) λo l=>C (w P .add 3 Y j (J U 1)) λn=>k F c d h n l) (pP a N c h H)
def nS(a:e)(N:Nat):Nat->aa->aa->aa->aa->aa->ad->O
 |0,_,_,_,_,_,_=>u
 |n+1,F,c,d,h,i,H=>r6 a N (nS a N n) F c d h i H
def Zz(a:e)(N:Nat)(h:aa->aa->aa->aa->aa->ad->O):∀V H,a7 P a N (d (d (L (d (L (L (L (L (L (n Tryz.f60)))))))))) (λV H=>h (V 0) (V 2) (V 3) (V 4) (V 5) H) [(3,(λV H=>pP a N (V 2) (V 4) H))] (p Tryz.f60) V H=r6 a N h (V 0) (V 2) (V 3) (V 4) (V 5) H:=by
 refine bm (q _) λV H=> ?_
 delta r6;generalize pP a N=c;revert c;refine id ?_;intro c;kernel_rfl
def mi(a:e)(N:Nat)(F c:aa)(d h:aa)(H:ad):O:=nS a N N F c d h (J U 0) H
def ZC(a:e)(N:Nat):∀V H,a7 P a N (L (L (L (L (L (n Tryz.f60)))))) (p Tryz.f60) [] (p Tryz.f60) V H=mi a N (V 0) (V 2) (V 3) (V 4) H:=by
 refine bm ((Q M (ZD a N) ((Q M ((cn M ((cY (k:=λm V H=>nS a N m (V 0) (V 2) (V 3) (V 4) (V 5) H) M (λV H=>M) (λm=>Zz a N (nS a N m)))))) (q _))))) λV H=> ?_
 delta mi;generalize nS a N N=c;revert c;refine id ?_;intro c;kernel_rfl
def nR(d:e)(N:Nat)(F k:aa)(l h p:aa)(H:ad):O:=aO (I p) (i H (d 26 [F] H) λq a=>C (ca P 57 q 1) λs=>C (j P 43 h 0) λv=>aG a (aB P a 9 v s) λc=>C (bd F) λx=>C (j P 63 x 1) λy=>C (A P c 3 y) λz=>C (w P .add 3 Y z (J U 1)) λB=>C (bd F) λE=>C (j P 63 E 1) λG=>aG c (aB P c 3 G B) λm=>mi d N F k l h m) (i H (d 59 [F] H) λn a=>C (j P 43 h 0) λo=>aG a (aB P a 9 o n) λc=>mi d N F k l h c)
def ZE(a:e)(N:Nat):∀V H,a7 P a N (L (d (d (L (L (L (L (n Tryz.f60)))))))) (λV H=>mi a N (V 0) (V 2) (V 3) (V 4) H) [(2,(λV H=>mi a N (V 0) (V 2) (V 3) (V 4) H))] (p Tryz.f60) V H=nR a N (V 0) (V 2) (V 3) (V 4) (V 27) H:=by
 refine bm (q _) λV H=> ?_
 delta nR;generalize mi a N=c;revert c;refine id ?_;intro c;kernel_rfl
def nQ(a:e)(N:Nat)(F l d:aa)(H:ad):O:=C (bA P 43 [(1,d)]) λo=>bn H [Z [],J U 0] λh j=>aG j (aB P j 43 h o) λk=>i k (a 27 [F,Z [105,110,116]] k) λm c=>aO (I m) (nR a N F l d h m c) (i c (a 27 [F,Z [98,111,111,108]] c) λp n=>nR a N F l d h p n)
def ZB(a:e)(N:Nat):∀V H,a7 P a N (L (L (L (n Tryz.f60)))) (p Tryz.f60) [] (p Tryz.f60) V H=nQ a N (V 0) (V 2) (V 3) H:=by
 refine bm ((Q M ((Q M (ZC a N) ((cn M ((Q M (ZE a N) (q _))))))) (q _))) λV H=> ?_
 delta nQ;generalize nR a N=c;revert c;refine id ?_;intro c;kernel_rfl
def r7(h:e)(N:Nat)(m:aa->aa->aa->ad->O)(F d k:aa)(H:ad):O:=i H (h 27 [F,Z [91]] H) λy a=>aO (I y) (C (w P .eql 3 Y k (J U 3)) λz=>aO (I z) (i a (h 28 [F,J U 4] a) λB c=>aG c (aB P c 43 d (.agg [Z [],J U 0])) λl=>C (A P l 43 d) λr=>I (r,l)) (C (bd F) λn=>C (j P 63 n 1) λo=>C (A P a 3 o) λp=>C (w P .add 3 Y p (J U 1)) λq=>C (bd F) λs=>C (j P 63 s 1) λv=>aG a (aB P a 3 v q) λc=>C (w P .add 3 Y k (J U 1)) λx=>m F d x c)) (nQ h N F d k a)
def nT(a:e)(N:Nat):Nat->aa->aa->aa->ad->O
 |0,_,_,_,_=>u
 |n+1,F,c,d,H=>r7 a N (nT a N n) F c d H
def ZA(a:e)(N:Nat)(h:aa->aa->aa->ad->O):∀V H,a7 P a N (d (d (d (L (L (n Tryz.f60)))))) (λV H=>h (V 0) (V 2) (V 3) H) [(0,(λV H=>nQ a N (V 0) (V 2) (V 3) H))] (p Tryz.f60) V H=r7 a N h (V 0) (V 2) (V 3) H:=by
 refine bm (q _) λV H=> ?_
 delta r7;generalize nQ a N=c;revert c;refine id ?_;intro c;kernel_rfl
def uG(a:e)(N:Nat)(F:aa)(H:ad):O:=bn H [Z [],J U 0] λd c=>nT a N N F d (J U 0) c
def W4(N:Nat){F:aa}{H:ad}{r:aa×ad}(h:uG (al P aj) N F H=I r):al P aj 60 [F] H=I r:=bu N (S:=λa=>uG a N F H) Tryz.func60 (λa=>cG ((Q M ((Q M ((Q M (ZB a N) ((cn M ((cY (k:=λm V H=>nT a N m (V 0) (V 2) (V 3) H) M (λV H=>M) (λm=>ZA a N (nT a N m)))))))) (q _))) (q _))) (by delta uG;generalize nT a N N=c;revert c;refine id ?_;intro c;kernel_rfl)) h
def rC(a:e)(N:Nat)(H:ad):O:=some ((J U 0),H)
def X7(a:e)(N:Nat):∀V H,a7 P a N (L (L (L (L (L (n Tryz.f128)))))) (p Tryz.f128) [] (p Tryz.f128) V H=rC a N H:=by
 refine bm (q _) λV H=> ?_
 delta rC;kernel_rfl
def rB(h:e)(N:Nat)(i:aa->aa->aa->aa->aa->ad->O)(F d:aa)(c aJ a:aa)(H:ad):O:=C (bX P 163 c F) λk=>C (A P H 48 k) λl=>bU P .len [48] [l] H λm=>C (w P .lss 3 X a m) λn=>aO (I n) (C (bX P 163 c F) λp=>C (A P H 48 p) λq=>C (bX P 48 q a) λs=>C (A P H 9 s) λv=>C (j P 57 d 1) λx=>C (A P H 9 x) λy=>C (w P .eql 9 X v y) λz=>aO (I z) (C (bX P 164 aJ F) λB=>C (A P H 35 B) λE=>C (bX P 35 E a) λG=>C (A P H 3 G) λK=>I (K,H)) (C (w P .add 3 Y a (J U 1)) λo=>i F d c aJ o H)) (rC h N H)
def ln(a:e)(N:Nat):Nat->aa->aa->aa->aa->aa->ad->O
 |0,_,_,_,_,_,_=>u
 |n+1,F,c,d,aJ,h,H=>rB a N (ln a N n) F c d aJ h H
def X6(a:e)(N:Nat)(h:aa->aa->aa->aa->aa->ad->O):∀V H,a7 P a N (d (d (L (d (L (L (L (L (n Tryz.f128))))))))) (λV H=>h (V 0) (V 3) (V 5) (V 6) (V 7) H) [(0,(λV H=>rC a N H))] (p Tryz.f128) V H=rB a N h (V 0) (V 3) (V 5) (V 6) (V 7) H:=by
 refine bm (q _) λV H=> ?_
 delta rB;generalize rC a N=c;revert c;refine id ?_;intro c;kernel_rfl
def t_(v:e)(N:Nat)(F y:aa)(H:ad):O:=bO H (cg (H).next y) λs a=>C (j P 57 s 0) λab=>C (A P a 3 ab) λae=>C (w P .neq 3 Y ae (J U 4)) λz=>aO (I z) (I ((J U 0),a)) (bO a (I (.ax (a).next 0 1 1 (I 1),.row X 1 [[Z [124,124]]])) λB i=>bO i (I (.ax (i).next 0 1 1 (I 1),.row X 1 [[Z [38,38]]])) λE k=>bO k (I (.ax (k).next 0 4 1 (I 4),.row X 1 [[Z [60]],[Z [60,61]],[Z [61,61]],[Z [33,61]]])) λG l=>bO l (I (.ax (l).next 0 2 1 (I 2),.row X 1 [[Z [43]],[Z [45]]])) λK m=>bO m (I (.ax (m).next 0 3 1 (I 3),.row X 1 [[Z [42]],[Z [47]],[Z [37]]])) λL n=>bO n (b0 P (n).next 163 5 [(0,B),(1,E),(2,G),(3,K),(4,L)]) λM o=>bO o (I (.ax (o).next 0 1 1 (I 1),.row X 1 [[J U 24]])) λQ p=>bO p (I (.ax (p).next 0 1 1 (I 1),.row X 1 [[J U 23]])) λR q=>bO q (I (.ax (q).next 0 4 1 (I 4),.row X 1 [[J U 19],[J U 20],[J U 21],[J U 22]])) λS c=>bO c (I (.ax (c).next 0 2 1 (I 2),.row X 1 [[J U 14],[J U 15]])) λT d=>bO d (I (.ax (d).next 0 3 1 (I 3),.row X 1 [[J U 16],[J U 17],[J U 18]])) λV h=>bO h (b0 P (h).next 164 5 [(0,Q),(1,R),(2,S),(3,T),(4,V)]) λW x=>ln v N N F s M W (J U 0) x)
def VG(N:Nat){F y:aa}{H:ad}{r:aa×ad}(h:t_ (al P aj) N F y H=I r):al P aj 128 [F,y] H=I r:=bu N (S:=λa=>t_ a N F y H) Tryz.func128 (λa=>cG ((Q M ((Q M ((Q M ((Q M ((Q M (X7 a N) ((Q M ((cn M ((cY (k:=λm V H=>ln a N m (V 0) (V 3) (V 5) (V 6) (V 7) H) M (λV H=>M) (λm=>X6 a N (ln a N m)))))) (q _))))) (q _))) (q _))) (q _))) (q _))) (by delta t_;generalize ln a N N=c;revert c;refine id ?_;intro c;kernel_rfl)) h
def o_(i:e)(N:Nat)(c h:aa)(H:ad):O:=C (A P H 103 h) λd=>aG H (aB P H 103 c d) λa=>C (A P a 103 c) λr=>I (r,a)
def XU(a:e)(N:Nat):∀V H,a7 P a N (L (L (L (L (n Tryz.f109))))) (p Tryz.f109) [] (p Tryz.f109) V H=o_ a N (V 4) (V 5) H:=by
 refine bm (q _) λV H=> ?_
 delta o_;kernel_rfl
def Cu(a:aa->aa->aa->aa->ad->O)(F y:aa)(d e:aa)(c:ad):O:=a F y d e c
def wU(a:e)(N:Nat)(R:aa->aa->aa->aa->ad->O)(F y:aa)(Q l:aa)(H:ad):O:=i H (a 25 [F] H) λh T=>S h Y T (bP y) λah ab=>S h Y ab (bP F) λai s=>S h Y s (λq=>cZ s (a 26 [ai] s) q) λaj v=>S h Y v (λq=>cZ v (a 128 [ah,aj] v) q) λak ae=>S h Y ae (k (w P .neq 3 Y ak (J U 0))) λal x=>C (bC h (I al) (I (D X))) λam=>aO (I am) (i x (a 26 [F] x) λan af=>bn af [J U 0,Z [],J U 0,J U 0] λaJ L=>aG L (aB P L 57 aJ an) λz=>C (bd F) λao=>C (j P 63 ao 1) λap=>C (A P z 3 ap) λaq=>C (w P .add 3 Y aq (J U 1)) λar=>C (bd F) λau=>C (j P 63 au 1) λav=>aG z (aB P z 3 av ar) λG=>C (w P .add 3 Y y (J U 1)) λaw=>i G (a 109 [F,aw] G) λay V=>bn V [J U 0,J U 0,Z [],Z [],J U 0,aa.ag,J U 0,J U 0,J U 0,J U 0,J U 0] λp K=>aG K (aB P K 103 p ay) λc=>C (A P c 57 aJ) λM=>i c (a 128 [y,M] c) λaz d=>C (A P d 103 l) λB=>C (A P d 103 p) λE=>bO d (b0 P (d).next 96 2 [(0,B),(1,E)]) λaA m=>C (j P 57 aJ 3) λn=>C (A P m 3 n) λo=>C (bA P 103 [(0,az),(4,aA),(5,o)]) λaC=>aG m (aB P m 103 l aC) λW=>bif ((aZ (A P c 57 aJ) M&&Y)&&((aZ (A P c 103 l) B&&(aZ (A P d 103 l) B&&Y))&&((aZ (A P c 103 p) E&&(aZ (A P d 103 p) E&&Y))&&((aZ (A P c 3 n) o&&(aZ (A P d 3 n) o&&(aZ (A P m 3 n) o&&Y)))&&Y))))then(Cu R F y Q l W)else u) (o_ a N Q l x)
def pa(a:e)(N:Nat):Nat->aa->aa->aa->aa->ad->O
 |0,_,_,_,_,_=>u
 |n+1,F,y,c,d,H=>wU a N (pa a N n) F y c d H
def XT(a:e)(N:Nat)(h:aa->aa->aa->aa->ad->O):∀V H,a7 P a N (d (d (d (L (L (L (n Tryz.f109))))))) (λV H=>h (V 0) (V 1) (V 4) (V 5) H) [(0,(λV H=>o_ a N (V 4) (V 5) H))] (p Tryz.f109) V H=wU a N h (V 0) (V 1) (V 4) (V 5) H:=by
 refine bm (q _) λV H=> ?_
 delta wU Cu;generalize o_ a N=c;revert c;refine id ?_;intro c;kernel_rfl
def Cr(a:e)(N:Nat)(F y:aa)(d h:aa)(c:ad):O:=pa a N N F y d h c
def Cs(d:e)(N:Nat)(h F:aa)(y i c:aa)(a:ad):O:=aG a (aB P a 103 c h) (Cr d N F y i c)
def Ct(a:e)(N:Nat)(F y:aa)(h d:aa)(c:ad):O:=bn c [J U 0,J U 0,Z [],Z [],J U 0,aa.ag,J U 0,J U 0,J U 0,J U 0,J U 0] (Cs a N d F y h)
def tZ(c:e)(N:Nat)(F y:aa)(H:ad):O:=bn H [J U 0,J U 0,Z [],Z [],J U 0,aa.ag,J U 0,J U 0,J U 0,J U 0,J U 0] λd a=>C (w P .eql 3 Y y (J U 5)) λm=>aO (I m) (i a (c 127 [F] a) λk h=>aG h (aB P h 103 d k) λj=>C (A P j 103 d) λr=>I (r,j)) (C (w P .add 3 Y y (J U 1)) λl=>i a (c 109 [F,l] a) (Ct c N F y d))
def Vr(N:Nat){F y:aa}{H:ad}{r:aa×ad}(h:tZ (al P aj) N F y H=I r):al P aj 109 [F,y] H=I r:=bu N (S:=λa=>tZ a N F y H) Tryz.func109 (λa=>cG ((Q M ((Q M ((Q M ((Q M (XU a N) ((cn M ((cY (k:=λm V H=>pa a N m (V 0) (V 1) (V 4) (V 5) H) M (λV H=>M) (λm=>XT a N (pa a N m)))))))) (q _))) (q _))) (q _))) (by delta tZ Ct Cs Cr;generalize pa a N N=c;revert c;refine id ?_;intro c;kernel_rfl)) h
def pg(h:e)(F n:aa)(o S:aa)(H:ad):O:=C (j P 57 o 1) λs=>C (A P H 9 s) λv=>i H (h 83 [F,v] H) λT k=>i k (h 109 [F,J U 5] k) λx q=>bn q [J U 0,J U 0,Z [],Z [],J U 0,aa.ag,J U 0,J U 0,J U 0,J U 0,J U 0] λp l=>aG l (aB P l 103 p x) λa=>C (bd F) λy=>C (j P 63 y 2) λz=>C (A P a 3 z) λB=>C (w P .sub 3 Y B (J U 1)) λE=>C (bd F) λG=>C (j P 63 G 2) λK=>aG a (aB P a 3 K E) λc=>C (A P c 103 p) λL=>bO c (b0 P (c).next 96 1 [(0,L)]) λM d=>C (j P 57 o 3) λN=>C (A P d 3 N) λQ=>C (bA P 103 [(0,S),(4,M),(5,Q)]) λR=>aG d (aB P d 103 n R) λm=>C (A P m 103 n) λr=>I (r,m)
def X5(a:e)(N:Nat):∀V H,a7 P a N (L (L (L (L (n Tryz.f127))))) (p Tryz.f127) [] (p Tryz.f127) V H=pg a (V 0) (V 2) (V 3) (V 4) H:=by
 refine bm (q _) λV H=> ?_
 delta pg;kernel_rfl
def Cv(a:e)(F c:aa)(k:ad):O:=i k (a 26 [F] k) λy q=>bn q [J U 0,Z [],J U 0,J U 0] λj l=>aG l (aB P l 57 j y) λm=>i m (a 27 [F,Z [45]] m) λw d=>aO (I w) (pg a F c j (J U 12) d) (i d (a 27 [F,Z [33]] d) λx h=>aO (I x) (pg a F c j (J U 13) h) (i h (a 146 [F] h) λs n=>i n (a 145 [F,s] n) λv o=>aG o (aB P o 103 c v) λp=>C (A P p 103 c) λr=>I (r,p)))
def w6(a:e)(F:aa)(H:ad):O:=bn H [J U 0,J U 0,Z [],Z [],J U 0,aa.ag,J U 0,J U 0,J U 0,J U 0,J U 0] (Cv a F)
def VF(N:Nat){F:aa}{H:ad}{r:aa×ad}(h:w6 (al P aj) F H=I r):al P aj 127 [F] H=I r:=bu N (S:=λa=>w6 a F H) Tryz.func127 (λa=>cG ((Q M ((Q M ((Q M ((Q M (X5 a N) (q _))) (q _))) (q _))) (q _))) (by delta w6 Cv;generalize pg a=c;revert c;refine id ?_;intro c;kernel_rfl)) h
def pp(i:e)(N:Nat)(d c:aa)(H:ad):O:=C (A P H 103 d) λh=>aG H (aB P H 103 c h) λa=>C (A P a 103 c) λr=>I (r,a)
def Ys(a:e)(N:Nat):∀V H,a7 P a N (L (L (n Tryz.f145))) (p Tryz.f145) [] (p Tryz.f145) V H=pp a N (V 3) (V 4) H:=by
 refine bm (q _) λV H=> ?_
 delta pp;kernel_rfl
def Cx(a:aa->aa->aa->ad->O)(F d e:aa)(c:ad):O:=a F d e c
def Cw(a:aa->aa->aa->ad->O)(F d e:aa)(c:ad):O:=a F d e c
def Cy(k:e)(v:aa->aa->aa->ad->O)(F a:aa)(z y:aa)(x:ad):O:=i x (k 27 [F,Z [46]] x) λB l=>aO (I B) (C (bd F) λE=>C (j P 63 E 1) λG=>C (A P l 3 G) λH=>C (w P .add 3 Y H (J U 1)) λK=>C (bd F) λL=>C (j P 63 L 1) λM=>aG l (aB P l 3 M K) λd=>i d (k 59 [F] d) λN h=>C (A P h 103 a) λs=>bO h (b0 P (h).next 96 1 [(0,s)]) λQ c=>C (j P 57 z 3) λo=>C (A P c 3 o) λp=>C (bA P 103 [(0,(J U 5)),(2,N),(4,Q),(5,p)]) λR=>aG c (aB P c 103 a R) λm=>bif ((aZ (A P d 103 a) s&&(aZ (A P h 103 a) s&&Y))&&((aZ (A P d 3 o) p&&(aZ (A P h 3 o) p&&(aZ (A P c 3 o) p&&Y)))&&Y))then(Cx v F a y m)else u) (i l (k 83 [F,Z [91]] l) λah d=>i d (k 109 [F,J U 0] d) λS h=>bn h [J U 0,J U 0,Z [],Z [],J U 0,aa.ag,J U 0,J U 0,J U 0,J U 0,J U 0] λaJ c=>aG c (aB P c 103 aJ S) λm=>i m (k 85 [F,Z [93]] m) λai n=>C (A P n 103 a) λT=>C (A P n 103 aJ) λV=>bO n (b0 P (n).next 96 2 [(0,T),(1,V)]) λW q=>C (j P 57 z 3) λab=>C (A P q 3 ab) λae=>C (bA P 103 [(0,(J U 6)),(4,W),(5,ae)]) λaf=>aG q (aB P q 103 a af) (Cw v F a y))
def Cz(d:e)(h:aa->aa->aa->ad->O)(i F:aa)(j k c:aa)(a:ad):O:=aG a (aB P a 57 c i) (Cy d h F j c k)
def CA(a:e)(c:aa->aa->aa->ad->O)(F i:aa)(j h:aa)(d:ad):O:=bn d [J U 0,Z [],J U 0,J U 0] (Cz a c h F i j)
def xi(a:e)(d:aa->aa->aa->ad->O)(c:ad)(F h j:aa):O:=i c (a 26 [F] c) (CA a d F h j)
def xj(a:e)(N:Nat)(l:aa->aa->aa->ad->O)(F j k:aa)(H:ad):O:=i H (a 27 [F,Z [46]] H) λd m=>S d X m (bP F) λn c=>S d X c (λq=>cZ c (a 27 [n,Z [91]] c) q) λo h=>C (bC d (I (D Y)) (I o)) λp=>aO (I p) (xi a l h F j k) (pp a N j k h)
def nB(a:e)(N:Nat):Nat->aa->aa->aa->ad->O
 |0,_,_,_,_=>u
 |n+1,F,c,d,H=>xj a N (nB a N n) F c d H
def Yr(a:e)(N:Nat)(h:aa->aa->aa->ad->O):∀V H,a7 P a N (d (d (d (L (n Tryz.f145))))) (λV H=>h (V 0) (V 3) (V 4) H) [(0,(λV H=>pp a N (V 3) (V 4) H))] (p Tryz.f145) V H=xj a N h (V 0) (V 3) (V 4) H:=by
 refine bm (q _) λV H=> ?_
 delta xj xi CA Cz Cy Cw Cx;generalize pp a N=c;revert c;refine id ?_;intro c;kernel_rfl
def CB(a:e)(N:Nat)(F d h:aa)(c:ad):O:=nB a N N F d h c
def CC(a:e)(N:Nat)(F d:aa)(c:ad):O:=bn c [J U 0,J U 0,Z [],Z [],J U 0,aa.ag,J U 0,J U 0,J U 0,J U 0,J U 0] (CB a N F d)
def xh(a:e)(N:Nat)(F y:aa)(H:ad):O:=bO H (cg (H).next y) (CC a N F)
def VT(N:Nat){F y:aa}{H:ad}{r:aa×ad}(h:xh (al P aj) N F y H=I r):al P aj 145 [F,y] H=I r:=bu N (S:=λa=>xh a N F y H) Tryz.func145 (λa=>cG ((Q M ((Q M (Ys a N) ((cn M ((cY (k:=λm V H=>nB a N m (V 0) (V 3) (V 4) H) M (λV H=>M) (λm=>Yr a N (nB a N m)))))))) (q _))) (by delta xh CC CB;generalize nB a N N=c;revert c;refine id ?_;intro c;kernel_rfl)) h
def xF(a:e)(F:aa)(H:ad):O:=bn H [J U 0,J U 0,Z [],Z [],J U 0,aa.ag,J U 0,J U 0,J U 0,J U 0,J U 0] λm d=>i d (a 83 [F,Z [40]] d) λs h=>i h (a 109 [F,J U 0] h) λq o=>bn o [J U 0,J U 0,Z [],Z [],J U 0,aa.ag,J U 0,J U 0,J U 0,J U 0,J U 0] λn j=>aG j (aB P j 103 n q) λk=>i k (a 85 [F,Z [41]] k) λv c=>C (A P c 103 n) λp=>aG c (aB P c 103 m p) λl=>C (A P l 103 m) λr=>I (r,l)
def V0(N:Nat){F:aa}{H:ad}{r:aa×ad}(h:xF (al P aj) F H=I r):al P aj 157 [F] H=I r:=bu N (S:=λa=>xF a F H) Tryz.func157 (λ_=>by delta xF;kernel_rfl) h
def lq(h:e)(F d p:aa)(H:ad):O:=i H (h 59 [F] H) λo m=>i m (h 27 [F,Z [40]] m) λq c=>C (cI .not q) λs=>aO (I s) (C (j P 57 p 3) λv=>C (A P c 3 v) λw=>C (bA P 103 [(0,(J U 4)),(2,o),(5,w)]) λx=>aG c (aB P c 103 d x) λa=>C (A P a 103 d) λr=>I (r,a)) (i c (h 158 [F] c) λy a=>C (j P 57 p 3) λk=>C (A P a 3 k) λl=>C (bA P 103 [(0,(J U 7)),(2,o),(4,y),(5,l)]) λz=>aG a (aB P a 103 d z) λn=>bif ((aZ (A P c 3 k) l&&(aZ (A P a 3 k) l&&Y))&&Y)then(C (A P n 103 d) λr=>I (r,n))else u)
def Yt(a:e)(N:Nat):∀V H,a7 P a N (L (L (L (n Tryz.f146)))) (p Tryz.f146) [] (p Tryz.f146) V H=lq a (V 0) (V 2) (V 3) H:=by
 refine bm (q _) λV H=> ?_
 delta lq;kernel_rfl
def xx(F:aa)(c:ad)(h e:aa):O:=C (bd F) λi=>C (j P 63 i 1) λk=>C (A P c 3 k) λl=>C (w P .add 3 Y l (J U 1)) λm=>C (bd F) λn=>C (j P 63 n 1) λo=>aG c (aB P c 3 o m) λa=>C (j P 57 h 2) λp=>C (A P a 3 p) λq=>C (j P 57 h 3) λs=>C (A P a 3 s) λv=>C (bA P 103 [(0,(J U 1)),(1,q),(5,v)]) λx=>aG a (aB P a 103 e x) λd=>C (A P d 103 e) λr=>I (r,d)
def pr(m:e)(c d h:aa)(H:ad):O:=C (j P 57 d 3) λi=>C (A P H 3 i) λk=>C (bA P 103 [(0,(J U 2)),(1,h),(5,k)]) λl=>aG H (aB P H 103 c l) λa=>C (A P a 103 c) λr=>I (r,a)
def Yv(a:e)(N:Nat):∀V H,a7 P a N (L (L (L (d (L (L (L (d (d (L (L (n Tryz.f146)))))))))))) (λV H=>lq a (V 0) (V 2) (V 3) H) [(0,(λV H=>lq a (V 0) (V 2) (V 3) H))] (p Tryz.f146) V H=pr a (V 2) (V 3) (V 4) H:=by
 refine bm (q _) λV H=> ?_
 delta pr;kernel_rfl
def ug(d:e)(F:aa)(H:ad)(c h:aa):O:=C (bd F) λi=>C (j P 63 i 1) λk=>C (A P H 3 k) λl=>C (w P .add 3 Y l (J U 1)) λm=>C (bd F) λn=>C (j P 63 n 1) λo=>aG H (aB P H 3 o m) λa=>C (j P 57 c 1) λp=>C (A P a 9 p) λq=>C (w P .eql 9 Y q (Z [116,114,117,101])) λs=>aO (I s) (pr d h c (J U 1) a) (pr d h c (J U 0) a)
def xz(n:e)(F:aa)(c:ad)(o m:aa):O:=C (bd F) λp=>C (j P 63 p 1) λq=>C (A P c 3 q) λs=>C (w P .add 3 Y s (J U 1)) λv=>C (bd F) λx=>C (j P 63 x 1) λy=>aG c (aB P c 3 y v) λd=>i d (n 60 [F] d) λz a=>C (j P 57 o 3) λh=>C (A P a 3 h) λk=>C (bA P 103 [(0,(J U 3)),(3,z),(5,k)]) λB=>aG a (aB P a 103 m B) λl=>bif ((aZ (A P d 3 h) k&&(aZ (A P a 3 h) k&&Y))&&Y)then(C (A P l 103 m) λr=>I (r,l))else u
def xA(l:e)(F:aa)(a:ad)(m k:aa):O:=C (bd F) λn=>C (j P 63 n 1) λo=>C (A P a 3 o) λp=>C (w P .add 3 Y p (J U 1)) λq=>C (bd F) λs=>C (j P 63 s 1) λv=>aG a (aB P a 3 v q) λc=>C (j P 57 m 3) λx=>C (A P c 3 x) λy=>i c (l 156 [F,y] c) λz d=>aG d (aB P d 103 k z) λh=>C (A P h 103 k) λr=>I (r,h)
def xB(o:e)(F:aa)(h:ad)(p n:aa):O:=C (bd F) λq=>C (j P 63 q 1) λs=>C (A P h 3 s) λv=>C (w P .add 3 Y v (J U 1)) λx=>C (bd F) λy=>C (j P 63 y 1) λz=>aG h (aB P h 3 z x) λk=>i k (o 157 [F] k) λB l=>bO l (b0 P (l).next 96 1 [(0,B)]) λE a=>C (j P 57 p 3) λc=>C (A P a 3 c) λd=>C (bA P 103 [(0,(J U 10)),(4,E),(5,d)]) λG=>aG a (aB P a 103 n G) λm=>bif ((aZ (A P k 3 c) d&&(aZ (A P l 3 c) d&&(aZ (A P a 3 c) d&&Y)))&&Y)then(C (A P m 103 n) λr=>I (r,m))else u
def xl(d:e)(F:aa)(a:ad)(v m:aa):O:=C (bd F) λx=>C (j P 63 x 1) λy=>C (A P a 3 y) λz=>C (w P .add 3 Y z (J U 1)) λB=>C (bd F) λn=>C (j P 63 n 1) λo=>aG a (aB P a 3 o B) λh=>i h (d 83 [F,Z [40]] h) λE k=>i k (d 85 [F,Z [41]] k) λG c=>C (j P 57 v 3) λp=>C (A P c 3 p) λq=>C (bA P 103 [(0,(J U 11)),(5,q)]) λs=>aG c (aB P c 103 m s) λl=>C (A P l 103 m) λr=>I (r,l)
def xm(j:e)(a:ad)(F h:aa):O:=i a (j 157 [F] a) λk c=>aG c (aB P c 103 h k) λd=>C (A P d 103 h) λr=>I (r,d)
def CE(a:e)(F d h:aa)(c:ad):O:=lq a F d h c
def xn(a:e)(F d:aa)(i h:aa)(c:ad):O:=aO (I h) (xm a c F d) (CE a F d i c)
def CF(a:e)(c:ad)(F d h:aa):O:=i c (a 27 [F,Z [40]] c) (xn a F d h)
def xo(a:e)(F h:aa)(d i:aa)(c:ad):O:=aO (I i) (xl a F c h d) (CF a c F d h)
def CG(a:e)(c:ad)(F h d:aa):O:=i c (a 27 [F,Z [114,101,97,100]] c) (xo a F h d)
def xp(a:e)(F h:aa)(d i:aa)(c:ad):O:=aO (I i) (xB a F c h d) (CG a c F h d)
def CH(a:e)(c:ad)(F h d:aa):O:=i c (a 27 [F,Z [108,101,110]] c) (xp a F h d)
def xq(a:e)(F h:aa)(d i:aa)(c:ad):O:=aO (I i) (xA a F c h d) (CH a c F h d)
def CI(a:e)(c:ad)(F h d:aa):O:=i c (a 27 [F,Z [110,101,119]] c) (xq a F h d)
def xr(a:e)(F h:aa)(d i:aa)(c:ad):O:=aO (I i) (xz a F c h d) (CI a c F h d)
def xt(a:e)(H:ad)(F d c:aa):O:=i H (a 27 [F,Z [110,117,108,108]] H) (xr a F d c)
def nC(a:e)(F c:aa)(d h:aa)(H:ad):O:=aO (I h) (ug a F H d c) (xt a H F d c)
def Yu(a:e)(N:Nat):∀V H,a7 P a N (L (L (L (d (d (L (L (n Tryz.f146)))))))) (λV H=>lq a (V 0) (V 2) (V 3) H) [(0,(λV H=>lq a (V 0) (V 2) (V 3) H))] (p Tryz.f146) V H=nC a (V 0) (V 2) (V 3) (V 28) H:=by
 refine bm ((e6 M ((Q M ((Q M ((Q M (Yv a N) (q _))) (q _))) (q _))) (q _))) λV H=> ?_
 delta nC xt xr CI xq CH xp CG xo CF xn CE xm xl xB xA xz ug;generalize lq a=c;generalize pr a=h;revert c h;refine id ?_;intro c h;kernel_rfl
def CJ(a:e)(F d:aa)(h i:aa)(c:ad):O:=nC a F d h i c
def xu(a:e)(F d:aa)(h i:aa)(c:ad):O:=nC a F d h i c
def CK(a:e)(c:ad)(F d h:aa):O:=i c (a 27 [F,Z [102,97,108,115,101]] c) (xu a F d h)
def xv(a:e)(F d:aa)(h i:aa)(c:ad):O:=aO (I i) (CJ a F d h i c) (CK a c F d h)
def xw(a:e)(c:ad)(F d h:aa):O:=i c (a 27 [F,Z [116,114,117,101]] c) (xv a F d h)
def ub(h:e)(F:aa)(a:ad)(d c i:aa):O:=aO (I i) (xx F a d c) (xw h a F c d)
def uc(a:e)(d F:aa)(j i h:aa)(c:ad):O:=C (bC d (I h) (I (D X))) (ub a F c j i)
def ud(c:e)(a F:aa)(j i h:aa)(d:ad):O:=S a Y d (k (w P .eql 3 Y h (J U 2))) (uc c a F j i)
def ue(d:e)(c F:aa)(j i h:aa)(a:ad):O:=S c Y a (qr (A P a 3 h)) (ud d c F j i)
def uf(d:e)(c F:aa)(i a:aa)(h:ad):O:=S a Y h (k (j P 57 c 0)) (ue d a F c i)
def CL(a:e)(F h d:aa)(c:ad):O:=i c (a 25 [F] c) (uf a h F d)
def CM(d:e)(i F:aa)(h c:aa)(a:ad):O:=aG a (aB P a 57 c i) (CL d F c h)
def CN(a:e)(F d h:aa)(c:ad):O:=bn c [J U 0,Z [],J U 0,J U 0] (CM a h F d)
def CO(a:e)(F d:aa)(c:ad):O:=i c (a 26 [F] c) (CN a F d)
def xk(a:e)(F:aa)(H:ad):O:=bn H [J U 0,J U 0,Z [],Z [],J U 0,aa.ag,J U 0,J U 0,J U 0,J U 0,J U 0] (CO a F)
def VU(N:Nat){F:aa}{H:ad}{r:aa×ad}(h:xk (al P aj) F H=I r):al P aj 146 [F] H=I r:=bu N (S:=λa=>xk a F H) Tryz.func146 (λa=>cG ((Q M ((Q M ((Q M (Yt a N) ((cn M ((Q M ((e6 M (q _) ((Q M (Yu a N) (q _))))) (q _))))))) (q _))) (q _))) (by delta xk CO CN CM CL uf ue ud uc ub xw xv CK xu CJ xx;generalize nC a=c;revert c;refine id ?_;intro c;kernel_rfl)) h
def xE(a:e)(F y:aa)(H:ad):O:=bn H [J U 0,J U 0,Z [],Z [],J U 0,aa.ag,J U 0,J U 0,J U 0,J U 0,J U 0] λn q=>i q (a 27 [F,Z [91]] q) λW c=>C (cI .not W) λab=>aO (I ab) (i c (a 59 [F] c) λz d=>C (bA P 43 [(0,z)]) λB=>C (bA P 103 [(0,(J U 8)),(3,B),(5,y)]) λE=>aG d (aB P d 103 n E) λk=>C (A P k 103 n) λr=>I (r,k)) (C (bd F) λG=>C (j P 63 G 1) λK=>C (A P c 3 K) λL=>C (w P .add 3 Y L (J U 1)) λM=>C (bd F) λN=>C (j P 63 N 1) λQ=>aG c (aB P c 3 Q M) λd=>i d (a 60 [F] d) λR k=>bn k [Z [],J U 0] λh v=>aG v (aB P v 43 h R) λx=>i x (a 31 [F,Z [93]] x) λae o=>i o (a 157 [F] o) λS l=>C (A P l 43 h) λm=>bO l (b0 P (l).next 96 1 [(0,S)]) λT p=>C (bA P 103 [(0,(J U 9)),(3,m),(4,T),(5,y)]) λV=>aG p (aB P p 103 n V) λs=>bif ((aZ (A P o 43 h) m&&(aZ (A P l 43 h) m&&(aZ (A P p 43 h) m&&Y)))&&Y)then(C (A P s 103 n) λr=>I (r,s))else u)
def VZ(N:Nat){F y:aa}{H:ad}{r:aa×ad}(h:xE (al P aj) F y H=I r):al P aj 156 [F,y] H=I r:=bu N (S:=λa=>xE a F y H) Tryz.func156 (λ_=>by delta xE;kernel_rfl) h
def nE(a:e)(N:Nat)(F d:aa)(H:ad):O:=i H (a 85 [F,Z [41]] H) λh c=>I (d,c)
def Yy(a:e)(N:Nat):∀V H,a7 P a N (L (L (L (L (L (L (n Tryz.f158))))))) (p Tryz.f158) [] (p Tryz.f158) V H=nE a N (V 0) (V 3) H:=by
 refine bm (q _) λV H=> ?_
 delta nE;kernel_rfl
def ui(c:e)(N:Nat)(m:aa->aa->ad->O)(F l:aa)(H:ad):O:=i H (c 27 [F,Z [44]] H) λo a=>aO (I o) (C (bd F) λp=>C (j P 63 p 1) λq=>C (A P a 3 q) λs=>C (w P .add 3 Y s (J U 1)) λv=>C (bd F) λx=>C (j P 63 x 1) λy=>aG a (aB P a 3 y v) λd=>i d (c 109 [F,J U 0] d) λz h=>bO h (b0 P (h).next 96 1 [(0,z)]) λB k=>i k (c_ P k [96,96] l B) λE n=>m F E n) (nE c N F l a)
def ps(a:e)(N:Nat):Nat->aa->aa->ad->O
 |0,_,_,_=>u
 |n+1,F,c,H=>ui a N (ps a N n) F c H
def Yx(a:e)(N:Nat)(h:aa->aa->ad->O):∀V H,a7 P a N (d (d (d (L (L (L (L (L (n Tryz.f158))))))))) (λV H=>h (V 0) (V 3) H) [(0,(λV H=>nE a N (V 0) (V 3) H))] (p Tryz.f158) V H=ui a N h (V 0) (V 3) H:=by
 refine bm (q _) λV H=> ?_
 delta ui;generalize nE a N=c;revert c;refine id ?_;intro c;kernel_rfl
def rI(a:e)(N:Nat)(F:aa)(H:ad):O:=i H (a 83 [F,Z [40]] H) λp h=>i h (a 27 [F,Z [41]] h) λo c=>aO (I o) (i c (a 85 [F,Z [41]] c) λq d=>I (aa.ag,d)) (i c (a 109 [F,J U 0] c) λl d=>bO d (b0 P (d).next 96 1 [(0,l)]) λm j=>i j (c_ P j [96,96] aa.ag m) λn k=>ps a N N F n k)
def V1(N:Nat){F:aa}{H:ad}{r:aa×ad}(h:rI (al P aj) N F H=I r):al P aj 158 [F] H=I r:=bu N (S:=λa=>rI a N F H) Tryz.func158 (λa=>cG ((Q M ((Q M ((Q M ((Q M ((Q M ((Q M (Yy a N) ((cn M ((cY (k:=λm V H=>ps a N m (V 0) (V 3) H) M (λV H=>M) (λm=>Yx a N (ps a N m)))))))) (q _))) (q _))) (q _))) (q _))) (q _))) (by delta rI;generalize ps a N N=c;revert c;refine id ?_;intro c;kernel_rfl)) h
end
end
def bE(H:ad)(r:Nat)(af:aa)(s:am):Prop:=H.get r=I (.row X 5 [[af,J U s.at_,J U s.aY,J U s.an,J U s.bl]])
structure bF(H:ad)(r:Nat)(T:List Tok)(af:aa)(s:am):Prop where
 rd:bE H r af s
 ba:eR H af T
def bE.av{H H':ad}{r:Nat}{af:aa}{s:am}(a:bE H r af s)(p:aw H H'):bE H' r af s:=p.get a
def bE.lt{H:ad}{r:Nat}{af:aa}{s:am}(a:bE H r af s):r<H.next:=ad.aF a
def bF.mut{H H':ad}{r:Nat}{T:List Tok}{af:aa}{s s':am}(h:bF H r T af s)(m:bs r H H')(a:bE H' r af s'):bF H' r T af s':=
 ⟨a,h.ba.aP λl ro els e=>m.get e (by
  rintro rfl;rw[h.rd]at e;simp only[aT,b_.row.injEq]at e;omega)⟩
def bF.av{H H':ad}{r:Nat}{T:List Tok}{af:aa}{s:am}(h:bF H r T af s)(p:aw H H'):bF H' r T af s:=h.mut (p.mut _) (h.rd.av p)
def eL{H:ad}{r:Nat}{af:aa}{s:am}(a:bE H r af s)(s':am):bs r H (H.set r (.row X 5 [[af,J U s'.at_,J U s'.aY,J U s'.an,J U s'.bl]]))/\bE (H.set r (.row X 5 [[af,J U s'.at_,J U s'.aY,J U s'.an,J U s'.bl]])) r af s':=
 ⟨bV.bH (S:=(· =r)) (bV.refl _ _) (.inl rfl) _,ad.get_set_same a.lt⟩
def im{H:ad}{r:Nat}{af:aa}{s:am}{T:List Tok}(d:bE H r af s)(aq:eR H af T):W (al P aj 26 [.ptr r 0 0] H) λv H'=>v=(G T s.at_).v/\aw H H':=by
 unfold bE at d;have ak:=ad.aF d;refine bt (λ_=>Wx 0) ?_;by_cases a:s.at_<0
 ·simp(disch:=try exact ah)only[pF,aR,cd,aa.cells,cD,cw,A,bL,aB,bL,b8,b7,qF,d,a,decide_true,aD];exact⟨by simp[G,a,Tok.v,Tok.none],aw.push _ _⟩
 ·rcases aq with⟨rfl,rfl⟩|⟨l,i,cap,rfl,k⟩
  ·have c:(0:Int)<=s.at_:=ae;simp(disch:=try exact ah)only[pF,aR,cd,aa.cells,cD,cw,A,bL,aB,bL,b8,b7,s6,qF,d,a,c,decide_true,decide_false,aD,vR];exact⟨by simp[G,a,Tok.v,Tok.none,c],aw.push _ _⟩
  ·by_cases c:(T.length:Int)<=s.at_
   ·simp(disch:=try exact ah)only[pF,aR,cd,aa.cells,cD,cw,A,bL,aB,bL,b8,b7,s6,qF,d,a,c,decide_true,decide_false,aD,qY];exact⟨by simp[G,a,Tok.v,Tok.none,c],aw.push _ _⟩
   ·have e:s.at_.toNat<T.length:=ae;obtain⟨ro,els,h,m⟩:=k.resolve_left (by rintro rfl;simp at e);have n:=ad.aF h;have j:=m s.at_.toNat T[s.at_.toNat] (by simp[e]);simp only[Tok.cells]at j;simp(disch:=try exact ah)only[pF,aR,cd,aa.cells,cD,cw,A,bL,aB,bL,b8,b7,s6,qF,d,a,c,decide_false,aD,qY,vC,h,j];refine⟨?_,aw.push _ _⟩;simp[G,a,c,Tok.v,e]
def lj{H:ad}{r:Nat}{af:aa}{s:am}(a:bE H r af s):W (al P aj 25 [.ptr r 0 0] H) λv H'=>v= D (s.an==0)/\H'=H:=by
 unfold bE at a;refine bt (λ_=>Ww 0) ?_;simp only[x9,ai,a];exact aD.2 ⟨rfl,rfl⟩
def kx{H:ad}{r:Nat}{T:List Tok}{af:aa}{s:am}(a:bF H r T af s)(e:Int):W (al P aj 28 [.ptr r 0 0,J U e] H) λv H'=>v= .tuple []/\bs r H H'/\bF H' r T af (bx T e s):=by
 refine bt (λ_=>Wz 0) ?_;have h:=a.rd;have o:=a.ba.one;rw[ya];refine aA (lj h) ?_;rintro _ H1 ⟨rfl,rfl⟩;refine⟨aV _,?_⟩;by_cases c:s.an=0
 ·rw[show bx T e s={s with an:=e,bl:=(G T s.at_).pos} by simp[bx,c]];simp only[aR,c,beq_self_eq_true];refine aA (im h a.ba) ?_;rintro _ k ⟨rfl,d⟩;refine⟨d.1,?_⟩;have i:bE k r af s:=h.av d;have j:=i;unfold bE at j;simp only[cd,ai,Tok.v,j];obtain⟨m,n⟩:=eL i {s with an:=e,bl:=(G T s.at_).pos};exact aD.2 ⟨rfl,(d.mut _).trans m,a.mut ((d.mut _).trans m) n⟩
 ·have l:(s.an==0)=false:=by simpa using c
  rw[show bx T e s=s by simp[bx,c]];simp only[aR,l];exact aD.2 ⟨rfl,bV.refl _ _,a⟩
def A_(s:ay)(c:UInt8):eF P 9 (Z (c::s)) (J U 0)=I (J .u8 c.toNat):=M
def Cc{H0 H:ad}{r:Nat}{T:List Tok}{af:aa}{s:am}(p:aw H0 H)(i:bE H r af s){b:Nat}(d:H.get b=I (.row X 4 [[J U (G T s.at_).kind,Z (G T s.at_).text,J U (G T s.at_).n,J U (G T s.at_).pos]]))(x:ay)(k:Int):
  W (pG (al P aj) (.ptr r 0 0) (Z x) (.ptr b 0 0) (J U k) H) λv H'=>v= D (a8 T s k x)/\aw H0 H':=by
 rw[pG];refine aA (lj i) ?_;rintro _ H1 ⟨rfl,rfl⟩;refine⟨aV _,?_⟩;by_cases a:s.an=0
 ·by_cases c:(G T s.at_).kind=k
  ·simp only[ai,a,c,d,beq_self_eq_true];exact aD.2 ⟨by simp[a8,a,c],p⟩
  ·have h:((G T s.at_).kind==k)=false:=by simpa using c
   simp only[ai,a,h,d,beq_self_eq_true];exact aD.2 ⟨by simp[a8,a,c],p⟩
 ·have e:(s.an==0)=false:=by simpa using a
  simp only[ai,e];exact aD.2 ⟨by simp[a8,a],p⟩
def dD{H:ad}{r:Nat}{T:List Tok}{af:aa}{s:am}(e:bE H r af s)(aq:eR H af T)(x:ay)(m:x≠[]):W (al P aj 27 [.ptr r 0 0,Z x] H) λv H'=>v= D (aS T s x)/\aw H H':=by
 refine bt (λ_=>Wy 0) ?_;obtain⟨c,x,rfl⟩:∃c y,x=c::y:=by cases x with
  |nil=>exact absurd rfl m
  |cons c y=>exact⟨c,y,rfl⟩
 rw[x_];refine aA (im e aq) ?_;rintro _ H1 ⟨rfl,l⟩;refine⟨l.1,?_⟩;have a:=l.a1 (.row X 4 [[J U (G T s.at_).kind,Z (G T s.at_).text,J U (G T s.at_).n,J U (G T s.at_).pos]]);have j:=ad.a_ H1 (.row X 4 [[J U (G T s.at_).kind,Z (G T s.at_).text,J U (G T s.at_).n,J U (G T s.at_).pos]]);by_cases h:97<=c.toNat
 ·have d:(97:Int)<=(c.toNat:Int):=ae;by_cases k:c.toNat<=122
  ·have i:(c.toNat:Int)<=122:=ae;rw[show aS T s (c::x)=a8 T s 3 (c::x) by simp[aS,kw,h,k]];simp only[cd,ai,Tok.v,A_,d,i,decide_true];exact Cc a (e.av a) j _ 3
  ·have i:¬(c.toNat:Int)<=122:=ae;rw[show aS T s (c::x)=a8 T s 4 (c::x) by simp[aS,kw,h,k]];simp only[cd,ai,Tok.v,A_,d,i,decide_true,decide_false];exact Cc a (e.av a) j _ 4
 ·have d:¬(97:Int)<=(c.toNat:Int):=ae;rw[show aS T s (c::x)=a8 T s 4 (c::x) by simp[aS,kw,h]];simp only[cd,ai,Tok.v,A_,d,decide_false];exact Cc a (e.av a) j _ 4
def g5{H:ad}{r:Nat}{T:List Tok}{af:aa}{s:am}(a:bF H r T af s)(x:ay)(k:x≠[]):W (al P aj 31 [.ptr r 0 0,Z x] H) λv H'=>v= .tuple []/\bs r H H'/\bF H' r T af (bg T x s):=by
 refine bt (λ_=>WC 0) ?_;have o:=a.ba.one;rw[ux];refine aA (dD a.rd a.ba x k) ?_;rintro _ H1 ⟨rfl,c⟩;refine⟨c.1,?_⟩;have e:=a.rd.av c;have h:=e;unfold bE at h;cases d:aS T s x with
 |false=>
  rw[show bg T x s=bx T 2 s by simp[bg,d]];simp only[ai,hi];refine aA (kx (a.av c) 2) ?_;rintro _ n ⟨rfl,i,l⟩;refine⟨i.1,?_⟩
  try simp only[ux]
  exact aD.2 ⟨rfl,(c.mut _).trans i,l⟩
 |true=>
  rw[show bg T x s=ao s by simp[bg,d]];simp only[cd,de,ai,h,ij];obtain⟨m,j⟩:=eL e (ao s);exact aD.2 ⟨rfl,(c.mut _).trans m,a.mut ((c.mut _).trans m) j⟩
def rr{H:ad}{r:Nat}{T:List Tok}{af:aa}{s:am}(c:bF H r T af s)(x:ay)(n:x≠[]):W (al P aj 83 [.ptr r 0 0,Z x] H) λv H'=>v= .tuple []/\bs r H H'/\bF H' r T af (cl T x s):=by
 refine bt (λ_=>Xq 0) ?_;have z:=c.ba.one;rw[uK];refine aA (dD c.rd c.ba x n) ?_;rintro _ H1 ⟨rfl,d⟩;refine⟨d.1,?_⟩;have k:=c.av d;have j:=k.rd;unfold bE at j;have more:cl T x s=e4 (bg T x s)->W (i H1 (al P aj 31 [.ptr r 0 0,Z x] H1) (yR (.ptr r 0 0))) λv H'=>v= .tuple []/\bs r H H'/\bF H' r T af (cl T x s):=by
  intro y;rw[y];refine aA (g5 k x n) ?_;rintro _ q ⟨rfl,a,l⟩;refine⟨a.1,?_⟩;have o:=l.rd;have p:=o;unfold bE at p;simp only[yR,cd,de,ai,p];obtain⟨m,w⟩:=eL o (e4 (bg T x s));exact aD.2 ⟨rfl,((d.mut _).trans a).trans m,c.mut (((d.mut _).trans a).trans m) w⟩
 cases h:aS T s x with
 |false=>
  simp only[ai];exact more (by simp[cl,h])
 |true=>
  by_cases e:50<=s.aY
  ·rw[show cl T x s=bx T 4 s by simp[cl,h,e]];simp only[ai,j,e,decide_true];refine aA (kx k 4) ?_;rintro _ q ⟨rfl,a,l⟩;refine⟨a.1,?_⟩
   try simp only[uK]
   exact aD.2 ⟨rfl,(d.mut _).trans a,l⟩
  ·simp only[ai,j,e,decide_false];exact more (by simp[cl,h,e])
def rn{H:ad}{r:Nat}{T:List Tok}{af:aa}{s:am}(a:bF H r T af s)(x:ay)(i:x≠[]):W (al P aj 85 [.ptr r 0 0,Z x] H) λv H'=>v= .tuple []/\bs r H H'/\bF H' r T af (cV T x s):=by
 refine bt (λ_=>Xs 0) ?_;have l:=a.ba.one;rw[yT];refine aA (g5 a x i) ?_;rintro _ k ⟨rfl,c,j⟩;refine⟨c.1,?_⟩;have d:=j.rd;have e:=d;unfold bE at e;simp only[cd,de,ai,e];obtain⟨m,h⟩:=eL d (dA (bg T x s));exact aD.2 ⟨rfl,c.trans m,a.mut (c.trans m) h⟩
def np{H:ad}{r:Nat}{T:List Tok}{af:aa}{s:am}(a:bF H r T af s):W (al P aj 59 [.ptr r 0 0] H) λv H'=>v= Z (bv T s).1/\bs r H H'/\bF H' r T af (bv T s).2:=by
 refine bt (λ_=>W3 0) ?_;have E:=a.ba.one;have ak:=a.rd.lt;rw[yv];refine aA (im a.rd a.ba) ?_;rintro _ H1 ⟨rfl,h⟩;refine⟨h.1,?_⟩;have j:=h.a1 (.row X 4 [[J U (G T s.at_).kind,Z (G T s.at_).text,J U (G T s.at_).n,J U (G T s.at_).pos]]);have B:=ad.a_ H1 (.row X 4 [[J U (G T s.at_).kind,Z (G T s.at_).text,J U (G T s.at_).n,J U (G T s.at_).pos]]);simp(disch:=try exact ah)only[cd,ai,Tok.v];have l:=a.av j;refine aA (lj l.rd) ?_;rintro _ z ⟨rfl,rfl⟩;refine⟨aV _,?_⟩;have C:=h.1;have p:=a.rd.av h;unfold bE at p;have o:bv T s=([],bx T 2 s)->W (i (H1.push (.row X 4 [[J U (G T s.at_).kind,Z (G T s.at_).text,J U (G T s.at_).n,J U (G T s.at_).pos]])) (al P aj 28 [.ptr r 0 0,J U 2] (H1.push (.row X 4 [[J U (G T s.at_).kind,Z (G T s.at_).text,J U (G T s.at_).n,J U (G T s.at_).pos]]))) yw) λv H'=>v= Z (bv T s).1/\bs r H H'/\bF H' r T af (bv T s).2:=by
  intro x;rw[x];refine aA (kx l 2) ?_;rintro _ A ⟨rfl,q,y⟩;refine⟨q.1,?_⟩
  try simp only[yw]
  exact aD.2 ⟨rfl,(j.mut _).trans q,y⟩
 by_cases c:s.an=0
 ·by_cases k:(G T s.at_).kind=1
  ·have d:(s.an==0)=true:=by simpa using c
   have e:((G T s.at_).kind==1)=true:=by simpa using k
   rw[show bv T s=((G T s.at_).text,ao s) by simp[bv,c,k]];simp(disch:=try exact ah)only[cd,de,ai,d,e,p];obtain⟨m,w⟩:=eL l.rd (ao s);exact aD.2 ⟨rfl,(j.mut _).trans m,a.mut ((j.mut _).trans m) w⟩
  ·have e:((G T s.at_).kind==1)=false:=by simpa using k
   simp(disch:=try exact ah)only[ai,c,e,beq_self_eq_true];exact o (by simp[bv,e])
 ·have d:(s.an==0)=false:=by simpa using c
  simp(disch:=try exact ah)only[ai,d];exact o (by simp[bv,d])
def aaV(l:Nat)(a c dt eI d:Nat):b0 P l 163 5 [(0,.ax a 0 1 1 (I 1)),(1,.ax c 0 1 1 (I 1)),(2,.ax dt 0 4 1 (I 4)),(3,.ax eI 0 2 1 (I 2)),(4,.ax d 0 3 1 (I 3))]=
 I (.ax l 0 5 1 (I 5),.row X 1 [[.ax a 0 1 1 (I 1)],[.ax c 0 1 1 (I 1)],[.ax dt 0 4 1 (I 4)],[.ax eI 0 2 1 (I 2)],[.ax d 0 3 1 (I 3)]]):=M
def aaW(l:Nat)(a c dt eI d:Nat):b0 P l 164 5 [(0,.ax a 0 1 1 (I 1)),(1,.ax c 0 1 1 (I 1)),(2,.ax dt 0 4 1 (I 4)),(3,.ax eI 0 2 1 (I 2)),(4,.ax d 0 3 1 (I 3))]=
 I (.ax l 0 5 1 (I 5),.row X 1 [[.ax a 0 1 1 (I 1)],[.ax c 0 1 1 (I 1)],[.ax dt 0 4 1 (I 4)],[.ax eI 0 2 1 (I 2)],[.ax d 0 3 1 (I 3)]]):=M
def S9{H0 H:ad}(E:aw H0 H){b S K e d:Nat}{t:Tok}(A:H.get b=I (.row X 4 [[J U t.kind,Z t.text,J U t.n,J U t.pos]])){F C:List (List aa)}(j:H.get S=I (.row X 1 F))(L:H.get K=I (.row X 1 C)){lev:Nat}(V:lev<5)(all:List (ay×Int))(T:all.length<=1000){cs m:Option Nat}
  (au:F[lev]? =I [.ax e 0 all.length 1 cs]) (O:C[lev]? =I [.ax d 0 all.length 1 m]) (z:H.get e=I (.row X 1 (all.map λp=>[aa.str p.1]))) (M:H.get d=I (.row X 1 (all.map λp=>[aa.int U p.2]))) (N:Nat):
  ∀(rest pre:List (ay×Int)),all=pre++rest->∀(n:Nat),rest.length<n->
   W (ln (al P aj) N n (J U lev) (.ptr b 0 0) (.ax S 0 5 1 (I 5)) (.ax K 0 5 1 (I 5)) (J U pre.length) H) λv H'=>v= J U (k8 t.text rest)/\aw H0 H':=by
 have w:(0:Int)<=(lev:Int):=ae;have y:(lev:Int)<((5:Nat):Int):=ae;have aq:((lev:Int)).toNat=lev:=ae;have l:bX P 163 (.ax S 0 5 1 (I 5)) (J U (lev:Int))=I (.ptr S lev 0):=by rw[AZ w y,aq,vw]
 have i2:bX P 164 (.ax K 0 5 1 (I 5)) (J U (lev:Int))=I (.ptr K lev 0):=by rw[A0 w y,aq,vw]
 intro rest
 induction rest with
 |nil=>
  intro pre c n h;obtain⟨n,rfl⟩:∃k,n=k+1:=⟨n-1,by simp at h;omega⟩;have a:¬((pre.length:Int)<(all.length:Int)):=by rw[c];simp
  simp only[ln,rC,rB,ai,l,j,au,a,decide_false];exact aD.2 ⟨rfl,E⟩
 |cons q rest R=>
  intro pre c n h;obtain⟨x,k⟩:=q;obtain⟨n,rfl⟩:∃k,n=k+1:=⟨n-1,by simp at h;omega⟩;have a:(pre.length:Int)<(all.length:Int):=by rw[c];simp;omega
  have B:(0:Int)<=(pre.length:Int):=ae;have ap:((pre.length:Int)).toNat=pre.length:=ae;have o:all[pre.length]? =I (x,k):=by rw[c];simp
  have i3:bX P 48 (.ax e 0 all.length 1 cs) (J U (pre.length:Int))=I (.ptr e pre.length 0):=by rw[A5 B a,ap,vw]
  have i4:bX P 35 (.ax d 0 all.length 1 m) (J U (pre.length:Int))=I (.ptr d pre.length 0):=by rw[A4 B a,ap,vw]
  have s:(all.map λp=>[aa.str p.1])[pre.length]? =I [Z x]:=by rw[rs,o];rfl
  have G:(all.map λp=>[aa.int U p.2])[pre.length]? =I [J U k]:=by rw[rs,o];rfl
  cases i:x==t.text with
  |true=>
   simp only[ln,rB,ai,l,i2,i3,i4,j,L,au,O,z,M,s,G,A,a,decide_true,i];exact aD.2 ⟨by simp[k8,i],E⟩
  |false=>
   have Q:IntKind.i64.wrap ((pre.length:Int)+1)=((pre++[(x,k)]).length:Int):=by
    have ab:pre.length<all.length:=ae;rw[wrap_i64 ae ae];simp
   simp only[ln,rB,ai,l,i3,j,au,z,s,A,a,decide_true,i,Q];refine(R (pre++[(x,k)]) (by simp[c]) n (by simp at h;omega)).mono ?_;rintro v H' ⟨rfl,q⟩;exact⟨by simp[k8,i],q⟩
set_option maxHeartbeats 1000000 in
def JL{H:ad}(lev:Nat)(s:lev<5)(t:Tok):W (al P aj 128 [J U lev,t.v] H) λv H'=>v= J U (ey lev t)/\aw H H':=by
 refine bt (λ_=>VG 10) ?_;have o:∀l,cg l t.v=I (.ptr l 0 0,.row X 4 [[J U t.kind,Z t.text,J U t.n,J U t.pos]]):=λl=>ei l _ rfl
 cases d:t.kind != 4 with
 |true=>
  simp(disch:=try exact ah)only[t_,ai,o,d];exact aD.2 ⟨by simp[ey,d],aw.push _ _⟩
 |false=>
  simp(disch:=try exact ah)only[t_,ai,o,d,aaV,aaW];obtain⟨all,c⟩:∃all,hE[lev]? =I all:=⟨hE[lev]'(by simpa [hE]using s),by simp[hE]⟩;have C:all.length<10:=by
   have:∀a∈hE,a.length<10:=aC;exact this all (tu c)
  have key:∀(b6:ad),aw H b6->b6.get H.next=I (.row X 4 [[J U t.kind,Z t.text,J U t.n,J U t.pos]])->∀(S K h e:Nat) (k j:List (List aa)) (cs m:Option Nat),b6.get S=I (.row X 1 k)->b6.get K=I (.row X 1 j)->k[lev]? =I [.ax h 0 all.length 1 cs]->j[lev]? =I [.ax e 0 all.length 1 m]->
    b6.get h=I (.row X 1 (all.map λp=>[aa.str p.1]))->b6.get e=I (.row X 1 (all.map λp=>[aa.int U p.2]))->
    W (ln (al P aj) 10 10 (J U lev) (.ptr H.next 0 0) (.ax S 0 5 1 (I 5)) (.ax K 0 5 1 (I 5)) (J U 0) b6) λv H'=>v= J U (ey lev t)/\aw H H':=by
   intro b6 p B S K h e k j cs m w x y z i A;refine(S9 p B w x s all ae y z i A 10 all [] rfl 10 C).mono ?_;rintro v H' ⟨rfl,q⟩;exact⟨by simp[ey,d,c],q⟩
  have i:lev=0\/lev=1\/lev=2\/lev=3\/lev=4:=ae;rcases i with rfl|rfl|rfl|rfl|rfl<;>(simp only[hE,jk,lm,aT]at c;subst c)
  ·refine key _ ?_ ?_ (H.next+1+1+1+1+1+1) (H.next+1+1+1+1+1+1+1+1+1+1+1+1) (H.next+1) (H.next+1+1+1+1+1+1+1) [[.ax (H.next+1) 0 1 1 (I 1)],[.ax (H.next+1+1) 0 1 1 (I 1)],[.ax (H.next+1+1+1) 0 4 1 (I 4)],[.ax (H.next+1+1+1+1) 0 2 1 (I 2)],[.ax (H.next+1+1+1+1+1) 0 3 1 (I 3)]] [[.ax (H.next+1+1+1+1+1+1+1) 0 1 1 (I 1)],[.ax (H.next+1+1+1+1+1+1+1+1) 0 1 1 (I 1)],[.ax (H.next+1+1+1+1+1+1+1+1+1) 0 4 1 (I 4)],[.ax (H.next+1+1+1+1+1+1+1+1+1+1) 0 2 1 (I 2)],[.ax (H.next+1+1+1+1+1+1+1+1+1+1+1) 0 3 1 (I 3)]] (I 1) (I 1) ?_ ?_ rfl rfl ?_ ?_
   ·exact((((((((((((aw.push H _).a1 _).a1 _).a1 _).a1 _).a1 _).a1 _).a1 _).a1 _).a1 _).a1 _).a1 _).a1 _
   all_goals (simp(disch:=try exact ah)only[b7];try rfl)
  ·refine key _ ?_ ?_ (H.next+1+1+1+1+1+1) (H.next+1+1+1+1+1+1+1+1+1+1+1+1) (H.next+1+1) (H.next+1+1+1+1+1+1+1+1) [[.ax (H.next+1) 0 1 1 (I 1)],[.ax (H.next+1+1) 0 1 1 (I 1)],[.ax (H.next+1+1+1) 0 4 1 (I 4)],[.ax (H.next+1+1+1+1) 0 2 1 (I 2)],[.ax (H.next+1+1+1+1+1) 0 3 1 (I 3)]] [[.ax (H.next+1+1+1+1+1+1+1) 0 1 1 (I 1)],[.ax (H.next+1+1+1+1+1+1+1+1) 0 1 1 (I 1)],[.ax (H.next+1+1+1+1+1+1+1+1+1) 0 4 1 (I 4)],[.ax (H.next+1+1+1+1+1+1+1+1+1+1) 0 2 1 (I 2)],[.ax (H.next+1+1+1+1+1+1+1+1+1+1+1) 0 3 1 (I 3)]] (I 1) (I 1) ?_ ?_ rfl rfl ?_ ?_
   ·exact((((((((((((aw.push H _).a1 _).a1 _).a1 _).a1 _).a1 _).a1 _).a1 _).a1 _).a1 _).a1 _).a1 _).a1 _
   all_goals (simp(disch:=try exact ah)only[b7];try rfl)
  ·refine key _ ?_ ?_ (H.next+1+1+1+1+1+1) (H.next+1+1+1+1+1+1+1+1+1+1+1+1) (H.next+1+1+1) (H.next+1+1+1+1+1+1+1+1+1) [[.ax (H.next+1) 0 1 1 (I 1)],[.ax (H.next+1+1) 0 1 1 (I 1)],[.ax (H.next+1+1+1) 0 4 1 (I 4)],[.ax (H.next+1+1+1+1) 0 2 1 (I 2)],[.ax (H.next+1+1+1+1+1) 0 3 1 (I 3)]] [[.ax (H.next+1+1+1+1+1+1+1) 0 1 1 (I 1)],[.ax (H.next+1+1+1+1+1+1+1+1) 0 1 1 (I 1)],[.ax (H.next+1+1+1+1+1+1+1+1+1) 0 4 1 (I 4)],[.ax (H.next+1+1+1+1+1+1+1+1+1+1) 0 2 1 (I 2)],[.ax (H.next+1+1+1+1+1+1+1+1+1+1+1) 0 3 1 (I 3)]] (I 4) (I 4) ?_ ?_ rfl rfl ?_ ?_
   ·exact((((((((((((aw.push H _).a1 _).a1 _).a1 _).a1 _).a1 _).a1 _).a1 _).a1 _).a1 _).a1 _).a1 _).a1 _
   all_goals (simp(disch:=try exact ah)only[b7];try rfl)
  ·refine key _ ?_ ?_ (H.next+1+1+1+1+1+1) (H.next+1+1+1+1+1+1+1+1+1+1+1+1) (H.next+1+1+1+1) (H.next+1+1+1+1+1+1+1+1+1+1) [[.ax (H.next+1) 0 1 1 (I 1)],[.ax (H.next+1+1) 0 1 1 (I 1)],[.ax (H.next+1+1+1) 0 4 1 (I 4)],[.ax (H.next+1+1+1+1) 0 2 1 (I 2)],[.ax (H.next+1+1+1+1+1) 0 3 1 (I 3)]] [[.ax (H.next+1+1+1+1+1+1+1) 0 1 1 (I 1)],[.ax (H.next+1+1+1+1+1+1+1+1) 0 1 1 (I 1)],[.ax (H.next+1+1+1+1+1+1+1+1+1) 0 4 1 (I 4)],[.ax (H.next+1+1+1+1+1+1+1+1+1+1) 0 2 1 (I 2)],[.ax (H.next+1+1+1+1+1+1+1+1+1+1+1) 0 3 1 (I 3)]] (I 2) (I 2) ?_ ?_ rfl rfl ?_ ?_
   ·exact((((((((((((aw.push H _).a1 _).a1 _).a1 _).a1 _).a1 _).a1 _).a1 _).a1 _).a1 _).a1 _).a1 _).a1 _
   all_goals (simp(disch:=try exact ah)only[b7];try rfl)
  ·refine key _ ?_ ?_ (H.next+1+1+1+1+1+1) (H.next+1+1+1+1+1+1+1+1+1+1+1+1) (H.next+1+1+1+1+1) (H.next+1+1+1+1+1+1+1+1+1+1+1) [[.ax (H.next+1) 0 1 1 (I 1)],[.ax (H.next+1+1) 0 1 1 (I 1)],[.ax (H.next+1+1+1) 0 4 1 (I 4)],[.ax (H.next+1+1+1+1) 0 2 1 (I 2)],[.ax (H.next+1+1+1+1+1) 0 3 1 (I 3)]] [[.ax (H.next+1+1+1+1+1+1+1) 0 1 1 (I 1)],[.ax (H.next+1+1+1+1+1+1+1+1) 0 1 1 (I 1)],[.ax (H.next+1+1+1+1+1+1+1+1+1) 0 4 1 (I 4)],[.ax (H.next+1+1+1+1+1+1+1+1+1+1) 0 2 1 (I 2)],[.ax (H.next+1+1+1+1+1+1+1+1+1+1+1) 0 3 1 (I 3)]] (I 3) (I 3) ?_ ?_ rfl rfl ?_ ?_
   ·exact((((((((((((aw.push H _).a1 _).a1 _).a1 _).a1 _).a1 _).a1 _).a1 _).a1 _).a1 _).a1 _).a1 _).a1 _
   all_goals (simp(disch:=try exact ah)only[b7];try rfl)
def Cd{r:Nat}{T:List Tok}{af:aa}{H0:ad}{s0:am}(h:bF H0 r T af s0){b t:Nat}(n:H0.next<=b)(aq:H0.next<=t)(w:b≠t){x:ay}(d:Nat)(y:d<=1000)(N:Nat):
  ∀(j i:Nat),i+j=d->∀(m:Nat) (H:ad) (s:am),j<m->bs r H0 H->bE H r af s->H.get b=I (.row X 2 [[Z [],J U 0]])->H.get t=I (.row X 2 [[Z x,J U d]])->
   W (nS (al P aj) N m (.ptr r 0 0) (.ptr b 0 0) (J U d) (.ptr t 0 0) (J U i) H) λv H'=>v= .agg [Z x,J U d]/\bs r H0 H'/\bF H' r T af (takeN T [93] j s)
 |0,i,o,0,H,s,p,mt,a,c,e=>ae
 |0,i,o,m+1,H,s,p,mt,a,c,e=>by
  have l:¬((i:Int)<(d:Int)):=ae;have C:=ad.aF c;simp(disch:=try exact ah)only[nS,pP,r6,cd,ai,l,decide_false,c,e];exact aD.2 ⟨rfl,mt.bH (.inr n) _,h.mut (mt.bH (.inr n) _) (by
   have:=h.rd.lt;unfold bE at a ⊢;rw[ad.get_set_other ae];exact a)⟩
 |j+1,i,o,0,H,s,p,mt,a,c,e=>ae
 |j+1,i,o,m+1,H,s,p,mt,a,c,e=>by
  have l:((i:Int)<(d:Int)):=ae;have E:=h.rd.lt;simp(disch:=try exact ah)only[nS,r6,ai,l,decide_true];refine aA (g5 (h.mut mt a) [93] (by simp)) ?_;rintro _ q ⟨rfl,k,A⟩;refine⟨k.1,?_⟩;have z:IntKind.i64.wrap ((i:Int)+1)=((i+1:Nat):Int):=by rw[wrap_i64 ae ae];simp
  simp(disch:=try exact ah)only[ai,z];refine(Cd h n aq w d y N j (i+1) ae m q _ ae (mt.trans k) A.rd (k.get c ae) (k.get e ae)).mono ?_;rintro v H' ⟨rfl,aX,B⟩;exact⟨rfl,aX,B⟩
def Ml{r:Nat}{T:List Tok}{af:aa}{H0:ad}{s0:am}(h:bF H0 r T af s0){b t:Nat}(w:H0.next<=b)(aq:H0.next<=t)(x:b≠t)(d:Nat)(z:d<=1000)(N:Nat)(q:d<N){H:ad}{s:am}(mt:bs r H0 H)(n:bE H r af s)(j:H.get b=I (.row X 2 [[Z [],J U 0]]))
  (k:H.get t=I (.row X 2 [[Z [],J U d]])) {c:Bool} (y:(aS T s [105,110,116]||aS T s [98,111,111,108])=c):
  W (nR (al P aj) N (.ptr r 0 0) (.ptr b 0 0) (J U d) (.ptr t 0 0) (D c) H) λv H'=>v= .agg [Z (fj T d s).1.1,J U (fj T d s).1.2]/\bs r H0 H'/\bF H' r T af (fj T d s).2:=by
 have M:=h.rd.lt;have K:=ad.aF j;have Q:=ad.aF k;have L:=mt.1;have o:=h.mut mt n;have R:=o.ba.one;cases c with
 |true=>
  rw[show fj T d s=(((G T s.at_).text,(d:Int)),takeN T [93] d (ao s)) by simp[fj,y]];simp(disch:=try exact ah)only[nR,ai];refine aA (im n o.ba) ?_;rintro _ H1 ⟨rfl,e⟩;refine⟨e.1,?_⟩;have a:=e.get k;have l:=ad.aF a;have A:=n.av e;have m:=A;unfold bE at m;have O:=A.lt;simp(disch:=try exact ah)only[cd,de,ai,Tok.v,a,m];simp only[mi];have F:bs r H0 (H1.set t (.row X 2 [[Z (G T s.at_).text,J U d]])):=(mt.trans (e.mut _)).bH (.inr aq) _;have C:bE (H1.set t (.row X 2 [[Z (G T s.at_).text,J U d]])) r af s:=by
   unfold bE;rw[ad.get_set_other ae];exact m
  obtain⟨p,B⟩:=eL C (ao s);refine Cd h w aq x d z N d 0 ae N _ _ q (F.trans p) B (p.get ?_ ae) (p.get (ad.get_set_same l) ae);rw[ad.get_set_other ae];exact e.get j
 |false=>
  rw[show fj T d s=(((bv T s).1,(d:Int)),takeN T [93] d (bv T s).2) by simp[fj,y]];simp(disch:=try exact ah)only[nR,ai];refine aA (np o) ?_;rintro _ H1 ⟨rfl,i,E⟩;refine⟨i.1,?_⟩;have a:=i.get k ae;have l:=ad.aF a;simp(disch:=try exact ah)only[de,ai,a];simp only[mi];refine Cd h w aq x d z N d 0 ae N _ _ q ((mt.trans i).bH (.inr aq) _) ?_ ?_ (ad.get_set_same l)
  ·have:=E.rd;unfold bE at this ⊢;rw[ad.get_set_other ae];exact this
  ·rw[ad.get_set_other ae];exact i.get j ae
def Mk{r:Nat}{T:List Tok}{af:aa}{H0:ad}{s0:am}(e:bF H0 r T af s0){b:Nat}(n:H0.next<=b)(d:Nat)(o:d<=1000)(N:Nat)(m:d<N){H:ad}{s:am}(mt:bs r H0 H)(c:bE H r af s)(i:H.get b=I (.row X 2 [[Z [],J U 0]])):
  W (nQ (al P aj) N (.ptr r 0 0) (.ptr b 0 0) (J U d) H) λv H'=>v= .agg [Z (fj T d s).1.1,J U (fj T d s).1.2]/\bs r H0 H'/\bF H' r T af (fj T d s).2:=by
 have B:=e.rd.lt;have z:=ad.aF i;have A:=mt.1;have w:=e.mut mt c;simp only[nQ,cd,ai];have j:=aw.push H (.row X 2 [[Z [],J U d]]);have p:=ad.a_ H (.row X 2 [[Z [],J U d]]);refine aA (dD (c.av j) (w.ba.av j) _ (by simp)) ?_;rintro _ x ⟨rfl,h⟩;refine⟨h.1,?_⟩;have a:=j.trans h;cases q:aS T s [105,110,116]with
 |true=>
  simp only[ai];exact Ml e n ae ae d o N m (mt.trans (a.mut _)) (c.av a) (a.get i) (h.get p) (by simp[q])
 |false=>
  simp only[ai];refine aA (dD (c.av a) (w.ba.av a) _ (by simp)) ?_;rintro _ y ⟨rfl,k⟩;refine⟨k.1,?_⟩;have l:=a.trans k
  try simp only[pP,r6,nQ,r7,uG]
  exact Ml e n ae ae d o N m (mt.trans (l.mut _)) (c.av l) (l.get i) ((h.trans k).get p) (by simp[q])
def U7{r:Nat}{T:List Tok}{af:aa}{H0:ad}{s0:am}(e:bF H0 r T af s0){b:Nat}(w:H0.next<=b)(N:Nat)(C:3<N):
  ∀(n d:Nat),n+d=3->∀(m:Nat) (H:ad) (s:am),n<m->bs r H0 H->bE H r af s->H.get b=I (.row X 2 [[Z [],J U 0]])->
   W (nT (al P aj) N m (.ptr r 0 0) (.ptr b 0 0) (J U d) H) λv H'=>∃p:(ay×Int)×am,p=(match eZ T n d s with| .inr s'=>(([],0),s')| .inl (d,s')=>fj T d s')/\v= .agg [Z p.1.1,J U p.1.2]/\bs r H0 H'/\bF H' r T af p.2:=by
 intro n
 induction n with
 |zero=>
  intro d E m H s M mt c i;obtain⟨m,rfl⟩:∃k,m=k+1:=⟨m-1,ae⟩;have G:d=3:=ae;subst G;have o:=e.mut mt c;have L:=e.rd.lt;have K:=ad.aF i;simp only[nT];rw[r7];refine aA (dD c o.ba [91] (by simp)) ?_;rintro _ H1 ⟨rfl,a⟩;refine⟨a.1,?_⟩;have j:=a.get i;cases l:aS T s [91]with
  |true=>
   simp(disch:=try exact ah)only[ai,beq_self_eq_true,Int.cast_ofNat_Int];refine aA (kx (o.av a) 4) ?_;rintro _ V ⟨rfl,h,R⟩;refine⟨h.1,?_⟩;have x:=h.get j ae;have ab:=ad.aF x;simp(disch:=try exact ah)only[cd,ai,x];have A:=((mt.trans (a.mut _)).trans h).bH (.inr w) (.row X 2 [[Z [],J U 0]]);refine aD.2 ⟨(([],0),bx T 4 s),by simp[eZ,l],rfl,A,e.mut A ?_⟩;have:=R.rd;unfold bE at this ⊢;rw[ad.get_set_other ae];exact this
  |false=>
   simp(disch:=try exact ah)only[ai];refine(Mk e w 3 ae N C (mt.trans (a.mut _)) (c.av a) j).mono ?_;rintro v H' ⟨rfl,aX,q⟩;exact⟨fj T 3 s,by simp[eZ,l],rfl,aX,q⟩
 |succ n S=>
  intro d E m H s M mt c i;obtain⟨m,rfl⟩:∃k,m=k+1:=⟨m-1,ae⟩;have o:=e.mut mt c;have L:=e.rd.lt;have K:=ad.aF i;have ak:=o.ba.one;simp only[nT];rw[r7];refine aA (dD c o.ba [91] (by simp)) ?_;rintro _ H1 ⟨rfl,a⟩;refine⟨a.1,?_⟩;have j:=a.get i;have y:=c.av a;have z:=y;unfold bE at z;cases l:aS T s [91]with
  |true=>
   have B:((d:Int)==3)=false:=by simp;omega
   have Q:IntKind.i64.wrap ((d:Int)+1)=((d+1:Nat):Int):=by rw[wrap_i64 ae ae];simp
   obtain⟨h,F⟩:=eL y (ao s);simp(disch:=try exact ah)only[cd,de,ai,B,Q,z];refine(S (d+1) ae m _ _ ae ((mt.trans (a.mut _)).trans h) F (h.get j ae)).mono ?_;rintro v H' ⟨p,O,rfl,aX,q⟩;exact⟨p,by rw[O];simp[eZ,l],rfl,aX,q⟩
  |false=>
   simp(disch:=try exact ah)only[ai];refine(Mk e w d ae N ae (mt.trans (a.mut _)) (c.av a) j).mono ?_;rintro v H' ⟨rfl,aX,q⟩;exact⟨fj T d s,by simp[eZ,l],rfl,aX,q⟩
def tO{H:ad}{r:Nat}{T:List Tok}{af:aa}{s:am}(a:bF H r T af s):W (al P aj 60 [.ptr r 0 0] H) λv H'=>v= .agg [Z (cz T s).1.1,J U (cz T s).1.2]/\bs r H H'/\bF H' r T af (cz T s).2:=by
 refine bt (λ_=>W4 10) ?_;simp only[uG,bn];have p:=aw.push H (.row X 2 [[Z [],J U 0]]);refine(U7 a (aV _) 10 ae 3 0 rfl 10 _ s ae (p.mut _) (a.rd.av p) (ad.a_ _ _)).mono ?_;rintro v H' ⟨q,c,rfl,aX,d⟩;have:q=cz T s:=by rw[c];rfl
 subst this;exact⟨rfl,aX,d⟩
