/- Joined texts. -/
import Derived.Shelf.Strconv.Itoa4
import Derived.Test.YtpbnfjdkdfombaaGreatDoorGNumB
set_option maxHeartbeats 40000000
namespace Go.Proofs.YtpbnfjdkdfombaaGreatDoor
open Tryz
open Go.RowKit
set_option maxRecDepth 10000
theorem Qu(n:Int)(w:H)(h0:-9223372036854775808<=n)(Y:n<=9223372036854775807)(hE:NE w) :
  bF prog 71 #[.int .i64 n] w (S (Lib.itoa n)) :=
 (Any.strconv_Itoa laysItoa n h0 Y w hE.tab).m λ_ _ ⟨I,k,os,h3⟩=>⟨I,h3▸Lib.below_grow w.heap.size w (ag _) k os⟩

def yS(u:Url):O:=if u.bz then [58]++Lib.itoa u.port else []
def Fq(u:Url):O:=if u.opq=false/\2<=u.path.length/\u.path.head? = some []then [47,46]else []
def ld(u:Url):O:=if u.host.kind=0 then Fq u else [47,47]++uf u++lJ u.host++yS u
def qF(u:Url):O:=if u.bZ then [63]++u.q else []
def Nc(u:Url)(Zz:Bool):O:=if u.cg&&Zz then [35]++u.f else []
def dA(u:Url)(Zz:Bool):O:=u.aJ++[58]++ld u++nh u++qF u++Nc u Zz
structure nc (u:Url):Prop where
 aJ:u.aJ.length<=1024000000
 usr:u.usr.length<=102400000
 er:u.er.length<=102400000
 name:u.host.name.length<=102400000
 flat:u.flat.length<=1024000000
 path:(cH u.path).length<=1024000000
 q:u.q.length<=1024000000
 f:u.f.length<=1024000000
theorem Da(n:Int)(h0:-9223372036854775808<=n)(Y:n<=9223372036854775807):(Lib.itoa n).length<=21:=by
 unfold Lib.itoa
 split
 ·have:=my 18 n.natAbs (by omega)
  rw[ah];omega
 have:=my 18 n.toNat M0;omega
theorem Ec(u:Url)(h:nc u):(uf u).length<=204800002:=by
 have Y:=h.usr;have I:=h.er;unfold uf
 split
 ·simp
 split <;>simp only[ae,ah,aO] <;>omega
theorem sC(u:Url)(ok:gG u):(yS u).length<=22:=by
 have:=Da u.port ok.p.1 ok.p.2;unfold yS
 split
 ·rw[ae];simp;omega
 simp
theorem uN(u:Url)(ok:gG u)(h:nc u):(ld u).length<=409600000:=by
 have Y:=Ec u h;have I:=oQ u.host ok.h 102400000 h.name;have h3:=sC u ok;unfold ld Fq
 split
 ·split <;>simp
 simp only[ae,ah,aO];omega
theorem yQ(u:Url)(h:nc u):(nh u).length<=1024000000:=by
 unfold nh
 split
 ·exact h.flat
 exact h.path
theorem Ry(u:Url)(h:nc u):(qF u).length<=1024000001:=by
 have:=h.q;unfold qF
 split
 ·rw[ae];simp;omega
 simp
theorem UP(u:Url)(h:nc u)(fr:Bool):(Nc u fr).length<=1024000001:=by
 have:=h.f;unfold Nc
 split
 ·rw[ae];simp;omega
 simp
theorem RZ(u:Url)(ok:gG u)(h:nc u)(fr:Bool):(dA u fr).length<=5120000000:=by
 have Y:=uN u ok h;have I:=yQ u h;have h3:=Ry u h;have h4:=UP u h fr;have h5:=h.aJ;unfold dA;simp only[ae,ah,aO];omega
theorem Xw{w1 W:H}{bx:Nat}{cs:Array Z}(U:r7 w1 W)(hbx:bx<w1.heap.size)(HC:∀ i,w1.cell? ⟨bx,i,none⟩=cs[i]?)(i:Nat):W.cell? ⟨bx,i,none⟩=cs[i]? :=
 (U.cell (p:=⟨bx,i,none⟩) hbx).trans (HC i)
theorem rr(u:Url)(cs:Array Z)(A:Z)(fr:Bool)(w:H)(h:sY cs A u)(hp:Sl w.heap.size w A (u.path.map S))(hs:nc u)(hE:NE w) :
  bF prog 37 #[.agg cs,.bool fr] w (S (dA u fr)):=by
 have hwho:=λW=>WF u cs A W h hs.usr hs.er;have PX:=λW (hW:r7 w W)=>vJ u.host _ W (CS h.ok.h) hs.name (hE.below hW);have XN:=λW (hW:r7 w W)=>Mt u cs A W h ((hp.below hW).more hW.size) hs.path;have XI:=λW (hW:r7 w W)=>Qu u.port W h.ok.p.1 h.ok.p.2 (hE.below hW);have h0:=h.aJ;have h3:=h.kind;have h14:=h.bz;have UX:=h.port;have h16:=h.opq;have h18:=h.path;have h19:=h.bZ;have h20:=h.q;have h21:=h.cg;have h22:=h.f;have hsz:=h.sz
 have hC:∀ j v,(aS u.host)[j]? = some v->cs[3+j]? = some v:=by
  intro j v hj;have hl:(aS u.host).length=11:=by simp[aS,h.ok.h.l]
  have hj2:j<11:=by
   have:=(bh.1 hj).1;omega
  rw[h.XM j hj2];exact hj
 have ZS:(aS u.host).length=11:=by simp[aS,h.ok.h.l]
 have pV:dA u fr=u.aJ++[58]++ld u++nh u++qF u++Nc u fr:=rfl;have hah:ld u=if u.host.kind=0 then Fq u else [47,47]++uf u++lJ u.host++yS u:=rfl;have nA:Fq u=if u.opq=false/\2<=u.path.length/\u.path.head? = some []then [47,46]else []:=rfl;have hpo:yS u=if u.bz then [58]++Lib.itoa u.port else []:=rfl;have Te:qF u=if u.bZ then [63]++u.q else []:=rfl;have FU:Nc u fr=if u.cg&&fr then [35]++u.f else []:=rfl;have l1:=Ec u hs;have l2:=oQ u.host h.ok.h 102400000 hs.name;have l3:=uN u h.ok hs;have l4:=yQ u hs;have l5:=Ry u hs;have l6:=Da u.port h.ok.p.1 h.ok.p.2;have l7:=hs.aJ;have l8:=hs.q;have l9:=hs.f;have LL:=F<|And.intro l1 (And.intro l2 (And.intro l3 (And.intro l4 (And.intro l5 (And.intro l6 (And.intro l7 (And.intro l8 l9)))))));clear l1 l2 l3 l4 l5 l6 l7 l8 l9 h hs hE;generalize aS u.host=c11 at hC ZS PX;generalize dA u fr=RS at pV ⊢;generalize uf u=WH at *;generalize lJ u.host=HO at *;generalize yS u=PO at *;generalize ld u=AH at *;generalize Fq u=DO at *;generalize nh u=PA at *;generalize qF u=QU at *;generalize Nc u fr=FR at *;generalize Lib.itoa u.port=IT at *;generalize u.aJ=aJ at *;generalize u.host.kind=K at *;generalize u.bz=bz at *;generalize u.port=port at *;generalize u.opq=opq at *;generalize u.path=path at *;generalize u.bZ=bZ at *;generalize u.q=q at *;generalize u.cg=cg at *;generalize u.f=f at *;have a8h:=F hwho;clear hwho;have a2k:=F PX;clear PX;have a2r:=F XN;clear XN;have a2l:=F XI;clear XI;have a7d:=F hC;clear hC;have a7E:=F ZS;clear ZS;have xy:=F pV;clear pV;have HAH:=F hah;clear hah;have a7m:=F nA;clear nA;have ED:=F hpo;clear hpo;have HQF:=F Te;clear Te;have HFF:=F FU;clear FU;have HP:=F hp;clear hp;have eM:=F hsz;clear hsz;have HH:=F<|And.intro h3 (And.intro h14 (And.intro UX (And.intro h16 (And.intro h18 (And.intro h19 (And.intro h20 (And.intro h21 h22)))))));clear h3 h14 UX h16 h18 h19 h20 h21 h22;go_enter func37,ntmps37
 go_upto_region 4 with(first
  |(refine boxed rfl _ _ rfl cs rfl ?_;intro bx w1 hb1 hb2 hb3 hb4 hb5;have HC:=F hb4;have HB:=F hb5;have pw:=F hb2;have c0:=(Xw ((Below.refl w1.heap.size w1).alloc (ag _) (.cells #[.pointer none,.slice none 0 0] 106)) hb2 hb4 0).trans h0;clear hb1 hb2 hb3 hb4 hb5)
  |(go_at_call 68;refine(Hb.ws aJ (Hb.fresh w1) (by have:=LL.o;simp;omega)).m ?_;rintro e w2 ⟨rfl,n8⟩;have tQ:=F n8;clear n8)
  |(go_at_call 69;refine(Hb.Ti 58 _ rfl tQ.o (by have:=LL.o;simp;omega)).m ?_;rintro e w3 ⟨rfl,qR⟩;have lA:=F qR;clear qR))
 have hH:=HH.o;obtain⟨h3,h14,UX,h16,h18,h19,h20,h21,h22⟩:=hH;have CB:=F<|λ(W:H) (l:O) (U:Hb w1 l W) (i:Nat)=>Xw U.bL pw.o HC.o i;have BW:=F<|λ(W:H) (l:O) (U:Hb w1 l W)=>HB.o.trans (U.bL.m HB.o.size);have c3:=(CB.o _ _ lA.o 3).trans h3
 go_upto_if 13 with fail
 go_cut []from 6 (λwx=>Hid (Hb w1 (aJ++[58]++AH) wx))
 case first =>
  by_cases hk:K=0
  ·have hah:=HAH.o
   rw[if_pos hk]at hah;subst hah;obtain⟨av,cc,hpv⟩:=cQ HP.o;rw[ay]at hpv;subst hpv;have c16:=(CB.o _ _ lA.o 16).trans h16;have c18:=(CB.o _ _ lA.o 18).trans h18;have nA:=a7m.o;cases opq
   ·cases path with
    |nil =>
     rw[if_neg Oc]at nA;subst nA;go_wp2_with fail
     go_meet
     case rel =>
      show Hb w1 (aJ++[58]++[]) _;rw[aV];exact lA.o
    |cons p0 ps =>
     have hpp:=HP.o;cases ps with
     |nil =>
      rw[if_neg Oc]at nA;subst nA;go_wp2_with fail
      go_meet
      case rel =>
       show Hb w1 (aJ++[58]++[]) _;rw[aV];exact lA.o
     |cons p1 ps =>
      obtain⟨pb,po,rfl,hpb,hpc⟩:=gO (hpp.below (BW.o _ _ lA.o)) 0 Oc;simp only[gZ,dH]at hpc;have b2f:(2:Int)<=((p0::p1::ps).length:Nat):=by simp;omega
      by_cases hp0:p0=[]
      ·subst hp0
       rw[if_pos Oc]at nA;subst nA;have e1:(E []).toList.isEmpty=true:=by rw[aB];rfl
       have e2:(E []).toList=[]:=aB _
       go_wp2_with (first
        |(go_at_call 68;refine(Hb.ws [47,46] lA.o (by have:=LL.o;simp;omega)).m ?_;rintro e w4 ⟨rfl,PL⟩;have zA:=F PL;clear PL))
       go_meet
       case rel=>exact zA.o
      rw[if_neg (by simp[hp0])]at nA;subst nA;have e1:(E p0).toList.isEmpty=false:=by rw[aB];simpa using hp0
      have e2:¬ (E p0).toList=[]:=by rw[aB];exact hp0
      go_wp2_with fail
      go_meet
      case rel =>
       show Hb w1 (aJ++[58]++[]) _;rw[aV];exact lA.o
   rw[if_neg Oc]at nA;subst nA;go_wp2_with fail
   go_meet
   case rel =>
    show Hb w1 (aJ++[58]++[]) _;rw[aV];exact lA.o
  have hah:=HAH.o;rw[if_neg hk]at hah;have a15:=F hah;clear hah;have hpo:=ED.o;have c14:=λW (hW:Hb w1 (aJ++[58]++[47,47]++WH++HO) W)=>(CB.o _ _ hW 14).trans h14;have c15:=λW (l:O) (hW:Hb w1 l W)=>(CB.o _ _ hW 15).trans UX;have a7e:=F c14;clear c14;have a7f:=F c15;clear c15;go_wp2_with fail;refine(Hb.ws [47,47] lA.o (by have:=LL.o;simp;omega)).m ?_;rintro e w4 ⟨rfl,hbd⟩;have zA:=F hbd;clear hbd
  go_wp2_with (first
   |(refine wpList_load_mid rfl 34 _ rfl bx 0 rfl cs.toList _ (oC 0 (λi=>by rw[bM];exact CB.o _ _ zA.o i)) underlying34 rfl (by rw[fb,eM.o];kernel_rfl) ?_))
  rw[jh];refine(a8h.o _).m ?_;rintro e w5 ⟨rfl,hb5⟩;have Yo:=F<|zA.o.step hb5;clear hb5;go_wp2_with fail;refine(Hb.ws WH Yo.o (by have:=LL.o;simp;omega)).m ?_;rintro e w6 ⟨rfl,hbd⟩;have Yp:=F hbd;clear hbd
  go_wp2_with (first
   |(refine wpList_load_mid rfl 32 _ rfl bx 3 rfl c11 _ (λj v hv=>by rw[CB.o _ _ Yp.o (3+j)];exact a7d.o j v hv) underlying32 rfl (by rw[a7E.o];kernel_rfl) ?_))
  refine(a2k.o _ (BW.o _ _ Yp.o)).m ?_;rintro e w7 ⟨rfl,Em⟩;have a7a:=F<|Yp.o.step Em;clear Em;go_wp2_with fail;refine(Hb.ws HO a7a.o (by have:=LL.o;simp;omega)).m ?_;rintro e w8 ⟨rfl,hbd⟩;have a7b:=F hbd;clear hbd;have h8:=a7b.o;have e8:[]++aJ++[58]++[47,47]++WH++HO=aJ++[58]++[47,47]++WH++HO:=rfl;rw[e8]at h8;have c14:=a7e.o _ h8;cases bz
  ·have Vf:PO=[]:=hpo
   clear hpo;subst Vf;go_wp2_with fail
   go_meet
   case rel =>
    show Hb w1 (aJ++[58]++AH) _;rw[a15.o];simp only[aV,bB]at h8 ⊢;exact h8
  have Vf:PO=[58]++IT:=hpo;have a7V:=F Vf;clear hpo Vf;have H8:=F h8;clear h8;go_wp2_with fail;refine(Hb.Ti 58 _ rfl H8.o (by have:=LL.o;simp;omega)).m ?_;rintro e w9 ⟨rfl,hbd⟩;have Yq:=F hbd;clear hbd;have c15:=a7f.o _ _ Yq.o;go_wp2_with fail;refine(a2l.o _ (BW.o _ _ Yq.o)).m ?_;rintro e xr ⟨rfl,a3Z⟩;have a19:=F<|Yq.o.step a3Z;clear a3Z;go_wp2_with fail;refine(Hb.ws IT a19.o (by have:=LL.o;simp;omega)).m ?_;rintro e Eb ⟨rfl,hbd⟩;have a2a:=F hbd;clear hbd;go_wp2_with fail
  go_meet
  case rel =>
   show Hb w1 (aJ++[58]++AH) _;rw[a15.o,a7V.o];have h:=a2a.o;simp only[bB]at h ⊢;exact h
 case rest =>
  have HA:=hcut;clear hcut;clear lA tQ c0 c3
  go_wp2_with (first
   |(refine wpList_load_mid rfl 34 _ rfl bx 0 rfl cs.toList _ (oC 0 (λi=>by rw[bM];exact CB.o _ _ HA.o i)) underlying34 rfl (by rw[fb,eM.o];kernel_rfl) ?_))
  try rw[jh]
  refine(a2r.o _ (BW.o _ _ HA.o)).m ?_;rintro e w4 ⟨rfl,hb4⟩;have HA2:=F<|HA.o.step hb4;clear hb4;go_wp2_with fail;refine(Hb.ws PA HA2.o (by have:=LL.o;simp;omega)).m ?_;rintro e w5 ⟨rfl,hbd⟩;have Nt:=F hbd;clear hbd;have c19:=(CB.o _ _ Nt.o 19).trans h19
  go_upto_if 50 with fail
  go_cut []from 6 (λwx=>Hid (Hb w1 (aJ++[58]++AH++PA++QU) wx))
  case first =>
   have Te:=HQF.o;cases bZ
   ·have hq2:QU=[]:=Te
    subst hq2;go_wp2_with fail
    go_meet
    case rel =>
     show Hb w1 (aJ++[58]++AH++PA++[]) _;rw[aV];exact Nt.o
   have hq2:QU=[63]++q:=Te;have HQ2:=F hq2;clear hq2;go_wp2_with fail;refine(Hb.Ti 63 _ rfl Nt.o (by have:=LL.o;simp;omega)).m ?_;rintro e w20 ⟨rfl,hbd⟩;have Bo:=F hbd;clear hbd;have cq:=(CB.o _ _ Bo.o 20).trans h20;go_wp2_with fail;refine(Hb.ws q Bo.o (by have:=LL.o;simp;omega)).m ?_;rintro e SH ⟨rfl,hbd⟩;have Nu:=F hbd;clear hbd;go_wp2_with fail
   go_meet
   case rel =>
    show Hb w1 (aJ++[58]++AH++PA++QU) _;rw[HQ2.o];have h:=Nu.o;simp only[bB]at h ⊢;exact h
  case rest =>
   have HB3:=hcut;clear hcut c19;have c21:=(CB.o _ _ HB3.o 21).trans h21;have FU:=HFF.o;cases cg <;>cases fr
   case true.true =>
    have hq2:FR=[35]++f:=FU;have HQ2:=F hq2;clear FU hq2;go_wp2_with fail;refine(Hb.Ti 35 _ rfl HB3.o (by have:=LL.o;simp;omega)).m ?_;rintro e w20 ⟨rfl,hbd⟩;have Bo:=F hbd;clear hbd;have cq:=(CB.o _ _ Bo.o 22).trans h22;go_wp2_with fail;refine(Hb.ws f Bo.o (by have:=LL.o;simp;omega)).m ?_;rintro e SH ⟨rfl,hbd⟩;have Nu:=F hbd;clear hbd;go_wp2_with fail;refine(Hb.str Nu.o).m ?_;rintro e w30 ⟨rfl,PI⟩;have Ym:=F PI;clear PI;go_wp2_with fail;go_ret;refine⟨?_,HB.o.trans (Ym.o.m HB.o.size)⟩;rw[xy.o,HQ2.o];simp only[bB];rfl
   all_goals
    have hq2:FR=[]:=FU;have HQ2:=F hq2;clear FU hq2;go_wp2_with fail;refine(Hb.str HB3.o).m ?_;rintro e w30 ⟨rfl,PI⟩;have Ym:=F PI;clear PI;go_wp2_with fail;go_ret;refine⟨?_,HB.o.trans (Ym.o.m HB.o.size)⟩;rw[xy.o,HQ2.o];simp only[aV,bB];rfl

def X8(d:O)(has:Bool)(u:O):O:=if has then d++[59,32,117,114,108,61]++u else d
theorem V5(d u:O)(has:Bool)(w:H)(hd:d.length<=1024000000)(hu:u.length<=160000000000) :
  bF prog 51 #[.agg #[S d,.bool has,S u]] w (S (X8 d has u)):=by
 cases has
 all_goals
  go_enter func51,ntmps51;go_wp2_with fail;go_ret;refine⟨AK ?_,(Below.refl _ _).alloc (ag _) _⟩;simp[X8,Gs,Jl]
def ti(l:O):Bool:=(l.all λx=>!iW (G x)) && !l.isEmpty && !(Lib.hasPrefix l [44]) && !(Lib.hasSuffix l [44])
theorem FI{l:O}{k:Nat}(hk:k<l.length)(h:iW (G l[k])=true):ti l=false:=by
 have:(l.all λx=>!iW (G x))=false:=by
  rw[M5];exact⟨l[k],be hk,by simp[h]⟩
 unfold ti;rw[this];rfl
theorem Y4{l:O}(h:∀ k (hk:k<l.length),iW (G l[k])=false):(l.all λx=>!iW (G x))=true:=by
 rw[ch];intro x X;obtain⟨k,hk,rfl⟩:=cC X;simp[h k hk]
theorem Pk(u:Url)(cs:Array Z)(A:Z)(w:H)(h:sY cs A u)(hp:Sl w.heap.size w A (u.path.map S))(hs:nc u)(hE:NE w) :
  bF prog 40 #[.agg cs] w (.bool (ti (dA u true))):=by
 have pV:=λW (hW:r7 w W)=>rr u cs A true W h ((hp.below hW).more hW.size) hs (hE.below hW);have hlen:=RZ u h.ok hs true;have hsz:=h.sz;clear h hp hs hE;generalize dA u true=T at pV hlen ⊢;obtain⟨s,hs⟩:=V (E T);have a4H:s.size=T.length:=by rw[hs,aF]
 have hby:∀ k (hk:k<s.size) (hk2:k<T.length),((s[k]'hk).toNat:Int)=G T[k]:=λk hk hk2=>cy hs hk hk2
 have hpre:∀ W,bP prog 61 #[.string s,.string ⟨#[44]⟩] W (.bool (Lib.hasPrefix T [44])):=λW=>by
  have h:=Any.strings_HasPrefix laysHP s ⟨#[44]⟩ W;rw[show s.data.toList=T by rw[hs];exact cW T]at h;exact h
 have Z0:∀ W,bP prog 62 #[.string s,.string ⟨#[44]⟩] W (.bool (Lib.hasSuffix T [44])):=λW=>by
  have h:=Any.strings_HasSuffix laysHS s ⟨#[44]⟩ W M0;rw[show s.data.toList=T by rw[hs];exact cW T]at h;exact h
 obtain⟨em,hem⟩:=V (T.isEmpty);have hemp:(s.toList.isEmpty)=em:=by rw[hs,aB,hem]
 have IO:(s.toList=[]) ↔ em=true:=by rw[hs,aB,hem];simp
 obtain⟨hp,rH⟩:=V (Lib.hasPrefix T [44]);obtain⟨X,hhx⟩:=V (Lib.hasSuffix T [44]);rw[<-rH]at hpre;rw[<-hhx]at Z0;dsimp only[S]at pV;rw[<-hs]at pV;clear hs;obtain⟨N,hN⟩:=V (s.size);have iP:s.size=N:=hN.symm;have oP:N<=5120000000:=M0;have iV:=F hby;clear hby;have a2C:=F a4H;clear a4H hlen hN;have xy:=F pV;clear pV;have eM:=F hsz;clear hsz;have PF:=F hem;clear hem;have tS:=F rH;clear rH;have HHX:=F hhx;clear hhx;have HE1:=F hemp;have HE2:=F IO;clear hemp IO;have a7W:=F hpre;clear hpre;have a75:=F Z0;clear Z0;go_enter func40,ntmps40
 go_wp2_with (first
  |(refine boxed rfl _ _ rfl cs rfl ?_;intro bx w1 hb1 hb2 hb3 hb4 hb5;have HC:=F hb4;have HB:=F hb5;have pw:=F hb2;clear hb1 hb2 hb3 hb4 hb5)
  |(refine wpList_load_mid rfl 34 _ rfl bx 0 rfl cs.toList _ (oC 0 (λi=>by rw[bM];exact HC.o i)) underlying34 rfl (by rw[fb,eM.o];kernel_rfl) ?_)
  |(go_at_call 37;try rw[jh];refine(xy.o _ HB.o).m ?_;rintro e1 w2 ⟨rfl,hb2⟩;have HB2:=F<|HB.o.trans (hb2.m HB.o.size);clear hb2))
 go_loopw [4] (λiv wr=>∃ k:Nat,k<=N/\iv=.int .i64 k/\Hid (∀j (hj:j<T.length),j<k->iW (G T[j])=false)/\w2=wr) (λi _=>N-(intOf i).toNat)
 case atStart=>exact⟨0,M0,Oc,λj _ h=>absurd h (cL j),rfl⟩
 case round =>
  obtain⟨k,hk,rfl,hnb,rfl⟩:=hrel;by_cases hlt:k<N
  ·have mf:k<s.size:=by omega
   have hkl:k<T.length:=by have:=a2C.o;omega
   have hby:=iV.o k mf hkl;have hbl:=λW=>fh (G T[k]) W;have hrr:=jL T[k];cases hc:iW (G T[k])
   ·rw[hc]at hbl
    have MW:=F (show ∀j (hj:j<T.length),j<k+1->iW (G T[j])=false from λj hj h=>by
     rcases cI j k with Y|Y
     ·exact hnb.o j hj Y
     obtain rfl:j=k:=M0;exact hc)
    clear hc hnb;generalize G T[k]=x at hby hbl hrr;have lZ:=F hbl;clear hbl
    go_wp2_with (first|(go_at_call 74;refine(lZ.o _).m ?_;rintro e3 w3 ⟨rfl,hw3⟩;subst hw3))
    go_roundw
    case rel=>exact⟨k+1,M0,Oc,MW.o,by trivial⟩
    case measure=>simp[intOf];omega
   rw[hc]at hbl;have HF:=F<|FI hkl hc;clear hc hnb;generalize G T[k]=x at hby hbl hrr;have lZ:=F hbl;clear hbl
   go_wp2_with (first|(go_at_call 74;refine(lZ.o _).m ?_;rintro e3 w3 ⟨rfl,hw3⟩;subst hw3))
   go_ret;exact⟨by rw[HF.o];rfl,HB2.o⟩
  obtain rfl:k=N:=M0;have hall:(T.all λx=>!iW (G x))=true:=Y4 λj hj=>hnb.o j hj (by have:=a2C.o;omega)
  have hfit:ti T=(!em && !hp && !X):=by
   unfold ti;rw[hall,<-PF.o,<-tS.o,<-HHX.o];rfl
  have a7r:=F hfit;clear hfit hall hnb;have hemp:=HE1.o;have IO:=HE2.o;cases em <;>cases hp <;>cases X
  all_goals
   simp only[eH,iff_false,iff_true]at IO
   go_wp2_with (first
    |(go_at_call 61;refine(a7W.o _).m ?_;rintro e3 w3 ⟨rfl,hw3⟩;subst hw3)
    |(go_at_call 62;refine(a75.o _).m ?_;rintro e4 w4 ⟨rfl,hw4⟩;subst hw4))
   go_ret;exact⟨by rw[a7r.o];rfl,HB2.o⟩
theorem b0i(x:UInt8)(r:O):Lib.hasPrefix (x::r) [44]=decide (G x=44):=by
 have h3:Lib.hasPrefix (x::r) [44]=((44:UInt8)==x):=by simp[Lib.hasPrefix,List.isPrefixOf]
 rw[h3];by_cases h:x=44
 ·subst h;rfl
 have I:((44:UInt8)==x)=false:=by simpa using Ne.symm h
 rw[I];symm
 apply decide_eq_false
 intro Y
 apply h
 apply eZ.mp
 have h4:(x.toNat:Int)=44:=Y;have h5:(44:UInt8).toNat=44:=rfl;omega
theorem b0p(x:UInt8)(r:O):Lib.hasSuffix (r++[x]) [44]=decide (G x=44):=by
 have h:=b0i x r.reverse;unfold Lib.hasSuffix List.isSuffixOf;rw[jK];exact h

theorem EN.sm{u:Url}(h:EN u):nc u:=by
 have Y:=sw u.path;exact⟨by have:=h.aJ;omega,by have:=h.usr;omega,by have:=h.er;omega,by have:=h.name;omega,by have:=h.flat;omega,by have:=h.path;have:=h.tot;omega,by have:=h.q;omega,by have:=h.f;omega⟩
def zH(G':Prop)(e:Ending):Prop:=∃ b,e=.returned (.bool b)/\(b=true->G')
theorem zH.ff{G':Prop}:zH G' (.returned (.bool false)):=⟨false,rfl,λh=>(by cases h)⟩
theorem zH.of{G':Prop}{b:Bool}(h:b=true->G'):zH G' (.returned (.bool b)):=⟨b,rfl,h⟩

structure eu where
 right:Bool
 url:Url
 words:List O
def bN(A wv:Z)(i:eu):List Z:=.bool i.right::(cu A i.url++[wv])
def sW(B:Nat)(w:H)(b o:Nat)(i:eu):Prop:=∃ A wv,w.rangeAt b o (bN A wv i)/\gG i.url/\Sl B w A (i.url.path.map S)/\Sl B w wv (i.words.map S)
def Items(B:Nat)(w:H)(v:Z)(l:List eu):Prop :=
 ∃c,l.length<=c/\((l=[]/\∃ a,v=.slice a 0 c)\/∃ b o,b<B/\v=.slice (some ⟨b,o,none⟩) l.length c/\∀ k (hk:k<l.length),sW B w b (o+k*25) l[k])
theorem sW.below{B b o:Nat}{w w':H}{i:eu}(h:sW B w b o i)(U:Below B w w')(hB:b<B):sW B w' b o i:=by
 obtain⟨A,wv,Y,I,h3,h4⟩:=h;exact⟨A,wv,λj v hj=>(U.cell (p:=⟨b,o+j,none⟩) hB).trans (Y j v hj),I,h3.below U,h4.below U⟩
theorem sW.more{B B' b o:Nat}{w:H}{i:eu}(h:sW B w b o i)(hB:B<=B'):sW B' w b o i:=by
 obtain⟨A,wv,Y,I,h3,h4⟩:=h;exact⟨A,wv,Y,I,h3.more hB,h4.more hB⟩
theorem Items.below{B:Nat}{w w':H}{v:Z}{l:List eu}(h:Items B w v l)(U:Below B w w'):Items B w' v l:=by
 obtain⟨c,hc,h⟩:=h;refine⟨c,hc,?_⟩;rcases h with h|⟨b,o,hB,hv,ha⟩
 ·exact .inl h
 exact .inr ⟨b,o,hB,hv,λk hk=>(ha k hk).below U hB⟩
theorem Items.more{B B':Nat}{w:H}{v:Z}{l:List eu}(h:Items B w v l)(hB:B<=B'):Items B' w v l:=by
 obtain⟨c,hc,h⟩:=h;refine⟨c,hc,?_⟩;rcases h with h|⟨b,o,U,hv,ha⟩
 ·exact .inl h
 exact .inr ⟨b,o,M0,hv,λk hk=>(ha k hk).more hB⟩
theorem lM{B:Nat}{w:H}{v:Z}{l:List eu}(h:Items B w v l):∃ a c,v=.slice a l.length c:=by
 obtain⟨c,hc,h⟩:=h;rcases h with⟨rfl,a,rfl⟩|⟨b,o,_,rfl,_⟩
 ·exact⟨a,c,rfl⟩
 exact⟨_,c,rfl⟩
theorem oh{B:Nat}{w:H}{a:Option Addr}{n c:Nat}{l:List eu}(h:Items B w (.slice a n c) l)(k:Nat)(hk:k<l.length) :
  ∃b o,a=some ⟨b,o,none⟩/\b<B/\sW B w b (o+k*25) l[k]:=by
 obtain⟨c',_,h⟩:=h;rcases h with⟨rfl,_⟩|⟨b,o,U,hv,ha⟩
 ·simp at hk
 injection hv with Y I h3
 exact⟨b,o,Y,U,ha k hk⟩
theorem iK(A:Z)(u:Url)(ok:gG u):(cu A u).length=23:=by
 simp[cu,aS,ok.h.l]
theorem qX(A wv:Z)(i:eu)(ok:gG i.url):(bN A wv i).length=25:=by
 simp[bN,iK A i.url ok]
theorem Aq{w:H}{b o:Nat}{A wv:Z}{i:eu}(h:w.rangeAt b o (bN A wv i)):w.rangeAt b (o+1) (cu A i.url):=by
 intro j v hj
 have:=h (j+1) v (by
  have hl:=(bh.1 hj).1;unfold bN;rw[dx,cX hl];exact hj)
 rw[show o+1+j=o+(j+1) by omega];exact this
theorem Lt{w:H}{b o:Nat}{A wv:Z}{i:eu}(ok:gG i.url)(h:w.rangeAt b o (bN A wv i)):w.cell? ⟨b,o+24,none⟩=some wv:=by
 refine h 24 wv ?_;unfold bN;rw[dx,dB (by rw[iK A i.url ok];omega),iK A i.url ok];rfl
theorem cells_one(A wv:Z)(i:eu)(hp:A.oneCell'=true)(hw:wv.oneCell'=true):(bN A wv i).toArray.all (·.oneCell')=true:=by
 refine all_oneCell_toArray λv hv=>?_;simp only[bN,cu,aS,aK,bO,dt,cV,or_false]at hv;rcases hv with rfl|((((rfl|rfl|rfl)|(rfl|rfl|rfl|⟨n,_,rfl⟩))|h)|rfl)
 all_goals first|rfl|assumption|skip
 rcases h with rfl|rfl|rfl|rfl|rfl|rfl|rfl|rfl|rfl
 all_goals first|rfl|assumption
theorem rq{B:Nat}{w:H}{v:Z}{xs:List Z}(h:Sl B w v xs):v.oneCell'=true:=by
 obtain⟨a,c,rfl⟩:=cQ h;rfl
def ZI:Array Z:=#[.bool false,.string ⟨#[]⟩,.string ⟨#[]⟩,.string ⟨#[]⟩,.int .i64 0,.string ⟨#[]⟩,.int .u32 0,.int .u16 0,.int .u16 0,.int .u16 0,.int .u16 0,.int .u16 0,.int .u16 0,.int .u16 0,.int .u16 0,.bool false,.int .i64 0,.bool false,.string ⟨#[]⟩,.slice none 0 0,.bool false,.string ⟨#[]⟩,.bool false,.string ⟨#[]⟩,.slice none 0 0]
theorem allI(w:H):(Instr.alloc 48 true (Value.tuple #[])).run prog w=.ok (.pointer (some ⟨w.heap.size,0,none⟩)) (w.alloc (.cells ZI 48)):=Rz
def Kb(nb:Nat)(C:Array Z)(w:H):Prop:=w.heap[nb]? = some (.cells C 48 (0,0))
theorem Kb.cell{nb:Nat}{C:Array Z}{w:H}(h:Kb nb C w)(i:Nat):w.cell? ⟨nb,i,none⟩=C[i]?:=Go.Joins.cell_of_block h i
theorem Kb.below{nb:Nat}{C:Array Z}{w w':H}(h:Kb nb C w)(U:r7 w w'):Kb nb C w':=by
 have hlt:nb<w.heap.size:=by
  rcases cI nb w.heap.size with hlt|hge
  ·exact hlt
  unfold Kb at h;rw[cD hge]at h;cases h
 exact(U.block nb hlt).trans h
theorem Kb.fr{nb:Nat}{C:Array Z}{w w':H}{b:Nat}{g:Option Nat}{l:O}(h:Kb nb C w)(hB:sR b g l w)(hf:Fr (λk=>k=b\/g=some k) w w'):Kb nb C w':=by
 have hlt:nb<w.heap.size:=by
  rcases cI nb w.heap.size with hlt|hge
  ·exact hlt
  unfold Kb at h;rw[cD hge]at h;cases h
 refine(hf.block nb hlt ?_).trans h
 have key:∀ p,ql p b g l w->¬ (nb=b\/g=some nb):=by
  rintro p ⟨v,U,ho,hg⟩ X;unfold Kb at h;rcases X with rfl|X
  ·rw[U]at h
   injection h with h
   injection h with _ h
   revert h;decide
  rcases ho.2 with⟨rfl,_⟩|⟨g',cap,cur,rfl,_,hg',_⟩
  ·rw[<-hg]at X;cases X
  have e:g'=nb:=by rw[<-hg]at X;injection X
  rw[e]at hg';rw[hg']at h;injection h with h
  injection h with _ h
  revert h;decide
 rcases hB with hB|hB
 ·exact key _ hB
 exact key _ hB
theorem Hb.ws2{wb w:H}{l:O}{nb:Nat}{C:Array Z}(m:O)(h:Hb wb l w)(hk:Kb nb C w)(hlen:l.length+m.length<=1099511627776) :
  Calls prog 68 #[.pointer (some ⟨wb.heap.size,0,none⟩),S m] w λe w'=>e=.returned (.tuple #[.int .i64 m.length,.nilIface])/\Hb wb (l++m) w'/\Kb nb C w':=by
 obtain⟨g,Y,I⟩:=h.bld;refine(gP m Y hlen).m ?_;rintro e w' ⟨rfl,hr⟩;refine⟨rfl,Hb.Ax I h.bL hr,?_⟩;obtain⟨_,_,_,hf⟩:=hr;exact hk.fr Y hf
theorem Hb.wb2{wb w:H}{l:O}{nb:Nat}{C:Array Z}(m:UInt8)(n:Int)(hn:n=G m)(h:Hb wb l w)(hk:Kb nb C w)(hlen:l.length+1<=1099511627776) :
  Calls prog 69 #[.pointer (some ⟨wb.heap.size,0,none⟩),.int .u8 n] w λe w'=>e=.returned .nilIface/\Hb wb (l++[m]) w'/\Kb nb C w':=by
 subst hn;obtain⟨g,Y,I⟩:=h.bld;refine(pM m Y hlen).m ?_;rintro e w' ⟨rfl,hr⟩;refine⟨rfl,Hb.Ax I h.bL hr,?_⟩;obtain⟨_,_,_,hf⟩:=hr;exact hk.fr Y hf
def du(l:List O):O:=l.flatMap λx=>[32]++x
def eS(i:eu):O:=dA i.url true++du i.words
def ij:List eu->O
 | []=>[]
 |x::r=>eS x++r.flatMap λy=>[44,32]++eS y
theorem Ef(l:List O)(k:Nat)(hk:k<l.length):du (l.take (k+1))=du (l.take k)++[32]++l[k]:=by
 unfold du;rw[aH hk,dL,cM,uj,aV,bB]
theorem Gn(l:List eu)(k:Nat)(hk:k<l.length):ij (l.take (k+1))=ij (l.take k)++(if k=0 then []else [44,32])++eS l[k]:=by
 cases l with
 |nil=>simp at hk
 |cons x r =>
  cases k with
  |zero=>simp[ij]
  |succ k =>
   have hk':k<r.length:=by simpa using hk
   rw[dM,dM,if_neg M0];simp only[ij,b1m];rw[aH hk',dL,cM,uj,aV];simp only[bB]

theorem CY{B:Nat}{w:H}{v:Z}{l:List eu}(h:Items B w v l):∀ i∈l,gG i.url:=by
 intro i hi;obtain⟨k,hk,rfl⟩:=cC hi;obtain⟨a,c,rfl⟩:=lM h;obtain⟨b,o,_,_,⟨_,_,_,I,_,_⟩⟩:=oh h k hk;exact I
theorem a0V{ops:Array Oper}{rest:List Oper}{o:Oper}{a:Act}{w:H}{Q:Exit->Act->H->Prop}(hgd:o.guard=none)(x y:Operand)(ho:o.op=.store 48 x y)(A wv:Z)(it:eu)
  (X:a.eval x=.pointer (some ⟨w.heap.size,0,none⟩)) (hy:a.eval y=.agg (bN A wv it).toArray) (ok:gG it.url) (Y:(bN A wv it).toArray.all (·.oneCell')=true)
  (h:wpList prog ops Q rest (a.put o.dst undef) (w.alloc (.cells (bN A wv it).toArray 48))):wpList prog ops Q (o::rest) a (w.alloc (.cells ZI 48)):=by
 have hl:=qX A wv it ok;exact gy hgd 48 x y ho (bN A wv it).toArray ZI 48 X hy (by rw[fZ,hl];kernel_rfl) (by rw[show(bN A wv it).toArray.size=25 by rw[fZ,hl]];rfl) Y h
theorem a0n{nb:Nat}{A wv:Z}{it:eu}{w:H}(h:Kb nb (bN A wv it).toArray w):w.rangeAt nb 1 (cu A it.url):=by
 have h0:w.rangeAt nb 0 (bN A wv it):=λj v hj=>by
  rw[bM,h.cell j,cf];exact hj
 exact Aq h0
theorem QE{nb:Nat}{A wv:Z}{it:eu}{w:H}(ok:gG it.url)(h:Kb nb (bN A wv it).toArray w):w.cell? ⟨nb,24,none⟩=some wv:=by
 have h0:w.rangeAt nb 0 (bN A wv it):=λj v hj=>by
  rw[bM,h.cell j,cf];exact hj
 have:=Lt ok h0;rw[bM]at this;exact this
theorem MO(l:List O)(k:Nat):(du (l.take k)).length<=(du l).length:=by
 have h:du l=du (l.take k)++du (l.drop k):=by
  unfold du;rw[<-List.flatMap_append,cT]
 rw[h,ae];omega
theorem Ee:∀ l:List O,l.length<=(du l).length
 | []=>ag _
 |x::r=>by
  have:=Ee r;simp only[du,cM,ae,ah,aO]at this ⊢;omega
theorem Hn{l:List O}{x:O}(h:x∈l):x.length<=(du l).length:=by
 obtain⟨a,b,rfl⟩:=List.append_of_mem h;simp only[du,dL,cM,ae];omega
theorem QL(l:List eu)(k:Nat):(ij (l.take k)).length<=(ij l).length:=by
 cases l with
 |nil=>simp
 |cons x r =>
  cases k with
  |zero=>exact aL _
  |succ k =>
   have h:(r.flatMap λy=>[44,32]++eS y)=((r.take k).flatMap λy=>[44,32]++eS y)++((r.drop k).flatMap λy=>[44,32]++eS y):=by
    rw[<-List.flatMap_append,cT]
   rw[dM];show(eS x++_).length<=(eS x++_).length;rw[h];simp only[ae];omega
theorem KM(l:List eu)(v:Z)(w:H)(h:Items w.heap.size w v l)(hs:∀ i∈l,nc i.url)(hm:(ij l).length<=150000000000)(hn:l.length<=1000000000)(hE:NE w) :
  bF prog 50 #[v] w (S (ij l)):=by
 have hok:=CY h;obtain⟨av,cc,hv⟩:=lM h;subst hv;obtain⟨N,hN⟩:=V (l.length);have oP:N<=1000000000:=M0;have hlk:∀ k,(ij (l.take k)).length<=150000000000:=λk=>am (QL l k) hm;rw[<-hN]at h ⊢;have HI:=F h;have HS:=F hs;have Kd:=F hok;have HN:=F hN;have U4:=F hlk;have HE:=F hE;clear h hs hok hN hlk hE hn hm;go_enter func50,ntmps50;go_wp2_with fail
 go_loopw [10] (λiv wr=>∃ k:Nat,k<=N/\iv=.int .i64 k/\Hid (Hb w (ij (l.take k)) wr)) (λi _=>N-(intOf i).toNat)
 case atStart=>exact⟨0,M0,Oc,Hb.fresh w⟩
 case round =>
  obtain⟨k,hk,rfl,hbd⟩:=hrel;by_cases hlt:k<N
  ·have hkl:k<l.length:=by rw[<-HN.o];exact hlt
   have Lf:(k:Int)<N:=M0;obtain⟨b,o,rfl,hbb,hat⟩:=oh HI.o k hkl;obtain⟨A,wv,hrg,hok,hpv,hwv⟩:=hat;have hsm:=HS.o _ (be hkl);have htk:=Gn l k hkl;have hl0:=U4.o k;have hl1:=U4.o (k+1);generalize l[k]=it at hrg hok hpv hwv hsm htk;generalize ij (l.take k)=T at hbd htk hl0
   have hL:T.length+2+(eS it).length<=150000000002:=by
    rw[htk]at hl1;simp only[ae]at hl1;omega
   have hcl:=qX A wv it hok;have hone:=cells_one A wv it (rq hpv) (rq hwv);have IM:sY (cu A it.url).toArray A it.url:=lV A hok;have huc:=iK A it.url hok;have pV:=λ(W:H) (hW:r7 w W) (hp:Sl W.heap.size W A (it.url.path.map S))=>rr it.url _ A true W IM hp hsm (HE.o.below hW);have a4z:World.rangeAt _ b (o+k*25) (bN A wv it):=λj v hj=>(hbd.o.bL.cell (p:=⟨b,o+k*25+j,none⟩) hbb).trans (hrg j v hj);have EE:=F a4z;clear a4z;have a2p:=F hok;have HPV:=F hpv;have HWV:=F hwv;have YF:=F hsm;have uh:=F htk;have xM:=F hL;have xl:=F hcl;have TF:=F hone;have HUC:=F huc;have xy:=F pV;clear hrg hok hpv hwv hsm htk hL hcl hone huc pV IM hl0 hl1 hlt
   go_upto_region 5 with(first
    |(refine wpList_load_mid rfl 48 _ rfl b (o+k*25) rfl (bN A wv it) _ EE.o underlying48 rfl (by rw[xl.o];kernel_rfl) ?_)
    |(refine aM rfl 48 rfl _ _ (allI _) ?_)
    |(refine a0V rfl (.tmp 5) (.tmp 14) rfl A wv it rfl rfl a2p.o TF.o ?_))
   have hk2:Kb wr.heap.size (bN A wv it).toArray (wr.alloc (.cells (bN A wv it).toArray 48)):=heap_alloc_new wr _;have hb2:Hb w T (wr.alloc (.cells (bN A wv it).toArray 48)):=hbd.o.step ((Below.refl _ _).alloc (ag _) _);generalize wr.heap.size=nb at hk2 hb2 ⊢;generalize wr.alloc (.cells (bN A wv it).toArray 48)=w2 at hk2 hb2 ⊢;clear hbd EE;obtain⟨wa,wc,hwv⟩:=cQ HWV.o;rw[ay]at hwv;obtain⟨M,hM⟩:=V (it.words.length);rw[<-hM]at hwv;have HM:=F hM;clear hM
   have a9A:(dA it.url true).length+(du it.words).length<=150000000002:=by
    have Y:(eS it).length=(dA it.url true).length+(du it.words).length:=by unfold eS;rw[ae]
    have:=xM.o;omega
   have hMm:M<=150000000002:=by have:=HM.o;have:=Ee it.words;omega
   have a9z:(dA it.url true).length<=150000000002:=M0;have a4N:∀ j,(du (it.words.take j)).length<=150000000002:=λj=>by have:=MO it.words j;omega
   have a4Q:∀ x∈it.words,x.length<=150000000002:=λx X=>by have:=Hn X;omega
   have a8g:=F a4N;clear a4N;have a8i:=F a4Q;clear a4Q a9A;have hif:eS it=dA it.url true++du it.words:=rfl;have HIF:=F hif;clear hif;have hTl:T.length+2<=150000000002:=by have:=xM.o;omega
   have hsep:k=0\/(0:Int)<k:=M0;rcases hsep with hk0|hk0
   all_goals first
    | (skip
       have htk:=uh.o;rw[if_pos hk0,aV]at htk;have b4E:¬ (0:Int)<k:=M0;clear hk0;obtain⟨T1,hT1⟩:=V (T);rw[<-hT1]at htk hb2;have a9g:T1.length<=150000000002:=by rw[hT1];omega
       have HB3:=F hb2;have UF:=F hk2;have a2D:=F htk;clear hT1 hb2 hk2 htk uh;obtain⟨w3,hw3⟩:=V (w2);rw[<-hw3]at HB3 UF ⊢;clear hw3
       go_upto_region 7 with fail)
    | (skip
       have htk:=uh.o;rw[if_neg M0]at htk;obtain⟨T1,hT1⟩:=V (T++[44,32]);rw[<-hT1]at htk;have a9g:T1.length<=150000000002:=by rw[hT1,ae];simp;omega
       have HT1:=F hT1;have HB2:=F hb2;have SZ:=F hk2;have a2D:=F htk;clear hT1 hb2 hk2 htk uh
       go_upto_region 7 with(first
        |(go_at_call 68;refine(Hb.ws2 [44,32] HB2.o SZ.o (by simp;omega)).m ?_;rintro e w3 ⟨rfl,hb3,hk3⟩;have HB3:=F<|HT1.o▸hb3;have UF:=F hk3;clear hb3 hk3)))
   all_goals
    generalize dA it.url true=SE at xy HIF a9z
    go_wp2_with (first
     |(refine wpList_load_mid rfl 34 _ rfl nb 1 rfl (cu A it.url) _ (a0n UF.o) underlying34 rfl (by rw[HUC.o];kernel_rfl) ?_)
     |(go_at_call 37;refine(xy.o _ HB3.o.bL ((HPV.o.below HB3.o.bL).more HB3.o.bL.size)).m ?_;rintro e w4 ⟨rfl,hb4⟩;have eI:=F<|HB3.o.step hb4;have HK4:=F<|UF.o.below hb4;clear hb4)
     |(go_at_call 68;refine(Hb.ws2 SE eI.o HK4.o M0).m ?_;rintro e w5 ⟨rfl,hb5,hk5⟩;have cw:=(QE a2p.o hk5).trans (congrArg some hwv);have gD:=F hb5;have HK5:=F hk5;clear hb5 hk5))
    have a8j:=F hwv;clear hwv cw
    go_loopw [25] (λjv wr=>∃ j:Nat,j<=M/\jv=.int .i64 j/\Hid (Hb w (T1++SE++du (it.words.take j)) wr)/\Hid (Kb nb (bN A wv it).toArray wr)) (λj _=>M-(intOf j).toNat)
    case atStart=>exact⟨0,M0,Oc,(by have:=gD.o;show Hb w (T1++SE++du []) _;rw[show du []=[]from rfl,aV];exact this),HK5.o⟩
    case round =>
     obtain⟨j,hj,rfl,hbj,hkj⟩:=hrel;by_cases hjl:j<M
     ·have hjw:j<it.words.length:=by rw[<-HM.o];exact hjl
      have Z9:=HWV.o.below hbj.o.bL;rw[a8j.o]at Z9;obtain⟨wb,wo,rfl,hwb,hwc⟩:=gO Z9 j hjw;have hwt:=Ef it.words j hjw;have hwl:=a8i.o _ (be hjw);have hf1:=a8g.o j;generalize it.words[j]=word at hwc hwt hwl;generalize du (it.words.take j)=U' at hbj hwt hf1;have HWT:=F hwt;clear hwt Z9;have hLn:(T1++SE++U').length<=450000000006:=by rw[ae,ae];omega
      go_wp2_with (first
       |(go_at_call 69;refine(Hb.wb2 32 _ rfl hbj.o hkj.o M0).m ?_;rintro e w6 ⟨rfl,hb6,hk6⟩;have j8:=F hb6;have HK6:=F hk6;clear hb6 hk6)
       |(go_at_call 68;refine(Hb.ws2 word j8.o HK6.o (by rw[ae];simp only[ah,aO];omega)).m ?_;rintro e w7 ⟨rfl,Em,hk7⟩;have HB7:=F Em;have HK7:=F hk7;clear Em hk7))
      have h7:Hb w (T1++SE++du (it.words.take (j+1))) w7:=by
       have h:=HB7.o;rw[HWT.o];simp only[bB]at h ⊢;exact h
      have H7:=F h7;clear h7;go_roundw
      case rel =>
       first
        |exact⟨j+1,M0,Oc,H7.o,HK7.o⟩
        |((repeat apply Exists.intro);exact⟨⟨j+1,M0,Oc,H7.o,HK7.o⟩,rfl⟩)
      case measure=>simp[intOf];omega
     obtain rfl:j=M:=M0
     have hU:T1++SE++du (it.words.take j)=ij (l.take (k+1)):=by
      rw[HM.o,di,a2D.o,HIF.o,bB]
     have HU:=F<|hU▸hbj.o;clear hU hbj;go_wp2_with fail;go_roundw
     case rel =>
      first
       |exact⟨k+1,M0,Oc,HU.o⟩
       |((repeat apply Exists.intro);exact⟨⟨k+1,M0,Oc,HU.o⟩,rfl⟩)
     case measure=>simp[intOf];omega
  obtain rfl:k=N:=M0
  go_wp2_with (first|(go_at_call 73;refine(Hb.str hbd.o).m ?_;rintro e w2 ⟨rfl,hb2⟩;have HB2:=F hb2;clear hb2))
  go_ret;refine⟨?_,HB2.o⟩;rw[HN.o,di];rfl

def Pj(l:List eu):O:=match l with | []=>[]|i::_=>dA i.url true
def ye(k:Int)(l:List eu)(d:O):O:=if k=1 then Pj l else if k=2 then ij l else if k=3 then X8 d true (Pj l)else []
def kK(k:Int)(l:List eu)(d:O):O:=if l=[]then []else qM (ye k l d)
theorem Pa:qM []=[]:=rfl
theorem FC(kind:Int)(l:List eu)(v:Z)(d:O)(w:H)(h:Items w.heap.size w v l)(hs:∀ i∈l,nc i.url)(hm:(ij l).length<=150000000000)(hn:l.length<=1000000000)(hd:d.length<=100000)(hE:NE w) :
  bF prog 28 #[.int .i64 kind,.agg #[v,S d]] w (S (kK kind l d)):=by
 have hok:=CY h;have hlist:=λ(W:H) (hW:r7 w W)=>KM l v W ((h.below hW).more hW.size) hs hm hn (hE.below hW);have FS:=λ(x:O) (W:H) (X:x.length<=200000000000)=>FB x W X;obtain⟨av,cc,hv⟩:=lM h;subst hv;have W6:=F hlist;clear hlist;have JZ:=F FS;clear FS;cases l with
 |nil =>
  go_enter func28,ntmps28;go_wp2_with fail;go_ret;exact⟨rfl,(Below.refl _ _).alloc (ag _) _⟩
 |cons it r =>
  obtain⟨b,o,rfl,hbb,hat⟩:=oh h 0 Oc;simp only[gZ,Nat.zero_mul,dH]at hat;obtain⟨A,wv,hrg,ZU,hpv,hwv⟩:=hat;have hsm:=hs it fA;have IM:sY (cu A it.url).toArray A it.url:=lV A ZU;have huc:=iK A it.url ZU;have pV:=λ(W:H) (hW:r7 w W)=>rr it.url _ A true W IM ((hpv.below hW).more hW.size) hsm (hE.below hW)
  have hsl:(dA it.url true).length<=(ij (it::r)).length:=by
   show _<=(eS it++_).length;unfold eS;simp only[ae];omega
  have a4y:∀ W,r7 w W->W.rangeAt b (o+1) (cu A it.url):=λW hW j v hj=>(hW.cell (p:=⟨b,o+1+j,none⟩) hbb).trans (Aq hrg j v hj);have hw:kK kind (it::r) d=qM (ye kind (it::r) d):=rfl;have hbd:ye kind (it::r) d=if kind=1 then dA it.url true else if kind=2 then ij (it::r)else if kind=3 then X8 d true (dA it.url true)else []:=rfl;obtain⟨N,hN⟩:=V ((it::r).length);have hN0:(0:Int)<N:=by rw[hN,ah];omega
  have hN1:¬ (N:Int)=0:=M0;rw[<-hN]at W6 ⊢;have a9J:(ij (it::r)).length<=200000000000:=am hm P8
  have hrl:(X8 d true (dA it.url true)).length<=200000000000:=by
   simp only[X8,if_true,ae,ah,aO];omega
  generalize ij (it::r)=LI at *;generalize kK kind (it::r) d=WR at *;generalize ye kind (it::r) d=BO at *;generalize dA it.url true=SE at *;have hrf:=λW=>V5 d SE true W M0 M0;generalize X8 d true SE=RF at *;have xy:=F pV;have EE:=F a4y;have HUC:=F huc;have HRF:=F hrf;have HW:=F hw;have pN:=F hbd;clear pV a4y huc hrf hw hbd h hs hn hE hok hrg ZU hpv hwv hsm IM hN;have hbel:∀ o,Below w.heap.size w (w.alloc o):=λo=>(Below.refl w.heap.size w).alloc (ag _) o;have tR:=F hbel;clear hbel;by_cases k1:kind=1
  ·have hbd:=pN.o
   rw[if_pos k1]at hbd;have hw:=HW.o;rw[hbd]at hw;have HW2:=F hw;clear hbd hw;go_enter func28,ntmps28
   go_wp2_with (first
    |(refine wpList_load_mid rfl 34 _ rfl b (o+1) rfl (cu A it.url) _ (EE.o _ (tR.o _)) underlying34 rfl (by rw[HUC.o];kernel_rfl) ?_)
    |(go_at_call 37;refine(xy.o _ (tR.o _)).m ?_;rintro e w2 ⟨rfl,hb2⟩;have HB2:=F<|(tR.o _).trans (hb2.m (tR.o _).size);clear hb2)
    |(go_at_call 44;refine(JZ.o SE _ M0).m ?_;rintro e w3 ⟨rfl,hb3⟩;have HB3:=F<|HB2.o.trans (hb3.m HB2.o.size);clear hb3))
   go_ret;exact⟨by rw[HW2.o];rfl,HB3.o⟩
  by_cases k2:kind=2
  ·have hbd:=pN.o
   rw[if_neg k1,if_pos k2]at hbd;have hw:=HW.o;rw[hbd]at hw;have HW2:=F hw;clear hbd hw;go_enter func28,ntmps28
   go_wp2_with (first
    |(go_at_call 50;refine(W6.o _ (tR.o _)).m ?_;rintro e w2 ⟨rfl,hb2⟩;have HB2:=F<|(tR.o _).trans (hb2.m (tR.o _).size);clear hb2)
    |(go_at_call 44;refine(JZ.o LI _ a9J).m ?_;rintro e w3 ⟨rfl,hb3⟩;have HB3:=F<|HB2.o.trans (hb3.m HB2.o.size);clear hb3))
   go_ret;exact⟨by rw[HW2.o];rfl,HB3.o⟩
  by_cases k3:kind=3
  ·have hbd:=pN.o
   rw[if_neg k1,if_neg k2,if_pos k3]at hbd;have hw:=HW.o;rw[hbd]at hw;have HW2:=F hw
   have hcd:∀ W,Below (w.heap.size+1) (w.alloc (.cells #[.slice (some ⟨b,o,none⟩) N cc,S d] 44)) W->W.cell? ⟨w.heap.size,1,none⟩=some (S d):=λW hW=>by
    rw[hW.cell (p:=⟨w.heap.size,1,none⟩) Oc];rw[World.cell?_alloc_mark];rfl
   have HCD:=F hcd;clear hbd hw hcd;go_enter func28,ntmps28
   go_wp2_with (first
    |(refine wpList_load_mid rfl 34 _ rfl b (o+1) rfl (cu A it.url) _ (EE.o _ (tR.o _)) underlying34 rfl (by rw[HUC.o];kernel_rfl) ?_)
    |(go_at_call 37;refine(xy.o _ (tR.o _)).m ?_;rintro e w2 ⟨rfl,hb2⟩;have c1:=HCD.o _ (hb2.m Oc);have HB2:=F<|(tR.o _).trans (hb2.m (tR.o _).size);clear hb2)
    |(go_at_call 51;refine(HRF.o _).m ?_;rintro e w4 ⟨rfl,hb4⟩;have eI:=F<|HB2.o.trans (hb4.m HB2.o.size);clear hb4)
    |(go_at_call 44;refine(JZ.o RF _ hrl).m ?_;rintro e w3 ⟨rfl,hb3⟩;have HB3:=F<|eI.o.trans (hb3.m eI.o.size);clear hb3))
   go_ret;exact⟨by rw[HW2.o];rfl,HB3.o⟩
  have hbd:=pN.o;rw[if_neg k1,if_neg k2,if_neg k3]at hbd;have hw:=HW.o;rw[hbd,Pa]at hw;have HW2:=F hw;clear hbd hw;go_enter func28,ntmps28;go_wp2_with fail;go_ret;exact⟨by rw[HW2.o];rfl,tR.o _⟩

def h0:gF:=⟨0,[],0,[0,0,0,0,0,0,0,0]⟩
def hA:gF:=⟨2,[97],0,[0,0,0,0,0,0,0,0]⟩
def uA:Url:=⟨[104,116,116,112],[],[],hA,false,0,false,[],[[]],true,[98,38,99],false,[]⟩
def uO(fl:O):Url:=⟨[120],[],[],h0,false,0,true,fl,[],false,[],false,[]⟩
theorem a3l(w:H):(Instr.build 32 #[(0,.int .i64 2),(1,.string ⟨#[97]⟩)]).run prog w=.ok (.agg (aS hA).toArray) w:=Rz
section
variable {ops:Array Oper} {rest:List Oper} {o:Oper} {a:Act} {w:H} {Q:Exit->Act->H->Prop}
theorem yg(hg:o.guard=none)(t:TypeId)(n:Nat)(parts:Array (Nat×Operand))(ho:o.op=.buildSlice t n parts)(v:Z)(w':H)(xs:Array (Nat×Z))(X:parts.map (λ(i,x)=>(i,a.eval x))=xs)(hr:(Instr.buildSlice t n xs).run prog w=.ok v w')(h:wpList prog ops Q rest (a.put o.dst v) w'):wpList prog ops Q (o::rest) a w:=by
 refine wpList_plain hg λK hK=>?_;subst X;unfold Oper.wp execOp;simp only[ho,Sem.run_bind,Sem.run_pure,Result.andThen_ok,hr];exact hK _ _ h
theorem EW(hg:o.guard=none)(ho:o.op=.build 32 #[(0,.const (.int .i64 2)),(1,.const (.string ⟨#[97]⟩))])(h:wpList prog ops Q rest (a.put o.dst (.agg (aS hA).toArray)) w):wpList prog ops Q (o::rest) a w :=
 bR hg 32 _ ho (.agg (aS hA).toArray) #[(0,.int .i64 2),(1,.string ⟨#[97]⟩)] (by simp[Act.eval]) a3l h
end
theorem Wl(W:H)(s:O):Sl (W.alloc (.cells #[S s] 9)).heap.size (W.alloc (.cells #[S s] 9)) (.slice (some ⟨W.heap.size,0,none⟩) 1 1) ([s].map S):=by
 refine⟨1,Oc,by unfold maxLen;omega,.inr ⟨W.heap.size,0,Oc,rfl,λj hj=>?_⟩⟩;have h0:j=0:=by simpa using hj
 subst h0;rw[World.cell?_alloc_mark];rfl
def iA:eu:=⟨false,uA,[[49,120]]⟩
def iB:eu:=⟨false,uO [121],[]⟩
section
variable {ops:Array Oper} {rest:List Oper} {o:Oper} {a:Act} {w:H} {Q:Exit->Act->H->Prop}
end
theorem lm{P:Program}{ops:Array Oper}{rest:List Oper}{op:Oper}{a:Act}{w:H}{Q:Exit->Act->H->Prop}(hw:Region.wanted op (yielded ops a.tmps)=true)(ty:TypeId)(x:Operand)(ho:op.op=.load ty x)
  (b o:Nat) (X:a.eval x=.pointer (some ⟨b,o,none⟩)) (cs:List Z) (d:TypeDesc) (hc:w.rangeAt b o cs)
  (hu:P.underlying ty=some d) (hd:d.isRow=true) (hi:(P.info? ty).map (·.size)=some cs.length)
  (h:wpList P ops Q rest (a.put op.dst (.agg cs.toArray)) w):wpList P ops Q (op::rest) a w:=by
 unfold wpList;rw[if_pos hw];exact .inl (wp_load_mid ty x ho b o X cs d hc hu hd hi h)
theorem w2:kK 2 [iA,iB] [53]=[104,116,116,112,58,47,47,97,47,63,98,38,97,109,112,59,99,32,49,120,44,32,120,58,121]:=by decide +kernel
theorem w1:kK 1 [iA,iB] [53]=[104,116,116,112,58,47,47,97,47,63,98,38,97,109,112,59,99]:=by decide +kernel
theorem w3:kK 3 [iA,iB] [53]=[53,59,32,117,114,108,61,104,116,116,112,58,47,47,97,47,63,98,38,97,109,112,59,99]:=by decide +kernel
theorem w0:kK 0 [iA,iB] [53]=[]:=by decide +kernel
