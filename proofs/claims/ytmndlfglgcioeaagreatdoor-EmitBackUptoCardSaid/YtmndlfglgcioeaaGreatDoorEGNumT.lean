/- Joined texts. -/
import Derived.Shelf.Strconv.Itoa4
import Derived.Test.YtmndlfglgcioeaaGreatDoorEGNumB
set_option maxHeartbeats 40000000
namespace Go.Proofs.YtmndlfglgcioeaaGreatDoor
open Tryz
open Go.RowKit
set_option maxRecDepth 10000
theorem RE(n:Int)(w:World)(h0:-9223372036854775808<=n)(h1:n<=9223372036854775807)(hE:NE w) :
  bN prog 89 #[.int .i64 n] w (S (Lib.itoa n)) :=
 (Any.strconv_Itoa laysItoa n h0 h1 w hE.tab).mono fun _ _ ⟨h2,k,os,h3⟩=>⟨h2,h3▸Lib.below_grow w.heap.size w (af _) k os⟩

def tY(u:Url):Bytes:=if u.bq then [58]++Lib.itoa u.port else []
def qH(u:Url):Bytes:=if u.opq=false∧2<=u.path.length∧u.path.head? = some []then [47,46]else []
def eP(u:Url):Bytes:=if u.host.kind=0 then qH u else [47,47]++uH u++dE u.host++tY u
def qF(u:Url):Bytes:=if u.bS then [63]++u.q else []
def QC(u:Url)(a0g:Bool):Bytes:=if u.bZ&&a0g then [35]++u.f else []
def di(u:Url)(a0g:Bool):Bytes:=u.aH++[58]++eP u++gX u++qF u++QC u a0g
structure ke (u:Url):Prop where
 aH:u.aH.length<=1024000000
 usr:u.usr.length<=102400000
 fp:u.fp.length<=102400000
 name:u.host.name.length<=102400000
 flat:u.flat.length<=1024000000
 path:(bF u.path).length<=1024000000
 q:u.q.length<=1024000000
 f:u.f.length<=1024000000
theorem DZ(n:Int)(h0:-9223372036854775808<=n)(h1:n<=9223372036854775807):(Lib.itoa n).length<=21:=by
 unfold Lib.itoa
 split
 ·have:=nk 18 n.natAbs (by omega)
  rw[ag];omega
 have:=nk 18 n.toNat (by omega);omega
theorem Fg(u:Url)(h:ke u):(uH u).length<=204800002:=by
 have h1:=h.usr;have h2:=h.fp;unfold uH
 split
 ·simp
 split <;>simp only[ae,ag,aN] <;>omega
theorem zD(u:Url)(ok:gI u):(tY u).length<=22:=by
 have:=DZ u.port ok.p.1 ok.p.2;unfold tY
 split
 ·rw[ae];simp;omega
 simp
theorem vr(u:Url)(ok:gI u)(h:ke u):(eP u).length<=409600000:=by
 have h1:=Fg u h;have h2:=sO u.host ok.h 102400000 h.name;have h3:=zD u ok;unfold eP qH
 split
 ·split <;>simp
 simp only[ae,ag,aN];omega
theorem zy(u:Url)(h:ke u):(gX u).length<=1024000000:=by
 unfold gX
 split
 ·exact h.flat
 exact h.path
theorem S1(u:Url)(h:ke u):(qF u).length<=1024000001:=by
 have:=h.q;unfold qF
 split
 ·rw[ae];simp;omega
 simp
theorem VY(u:Url)(h:ke u)(fr:Bool):(QC u fr).length<=1024000001:=by
 have:=h.f;unfold QC
 split
 ·rw[ae];simp;omega
 simp
theorem EO(u:Url)(ok:gI u)(h:ke u)(fr:Bool):(di u fr).length<=5120000000:=by
 have h1:=vr u ok h;have h2:=zy u h;have h3:=S1 u h;have h4:=VY u h fr;have h5:=h.aH;unfold di;simp only[ae,ag,aN];omega
theorem Yi{w1 W:World}{bx:Nat}{cs:Array Value}(hb:Below w1.heap.size w1 W)(hbx:bx<w1.heap.size)(HC:∀ i,w1.cell? ⟨bx,i,none⟩=cs[i]?)(i:Nat):W.cell? ⟨bx,i,none⟩=cs[i]? :=
 (hb.cell (p:=⟨bx,i,none⟩) hbx).trans (HC i)
theorem BQ(u:Url)(cs:Array Value)(pv:Value)(fr:Bool)(w:World)(h:vo cs pv u)(hp:Sl w.heap.size w pv (u.path.map S))(hs:ke u)(hE:NE w) :
  bN prog 56 #[.agg cs,.bool fr] w (S (di u fr)):=by
 have hwho:=fun W=>XG u cs pv W h hs.usr hs.fp;have Q8:=fun W (hW:Below w.heap.size w W)=>GK u.host _ W (Rc h.ok.h) hs.name (hE.below hW);have Yw:=fun W (hW:Below w.heap.size w W)=>NF u cs pv W h ((hp.below hW).more hW.size) hs.path;have Ys:=fun W (hW:Below w.heap.size w W)=>RE u.port W h.ok.p.1 h.ok.p.2 (hE.below hW);have h0:=h.aH;have h3:=h.kind;have h14:=h.bq;have V2:=h.port;have h16:=h.opq;have h18:=h.path;have h19:=h.bS;have h20:=h.q;have h21:=h.bZ;have h22:=h.f;have hsz:=h.sz
 have hC:∀ j v,(aZ u.host)[j]? = some v->cs[3+j]? = some v:=by
  intro j v hj;have hl:(aZ u.host).length=11:=by simp[aZ,h.ok.h.l]
  have hj2:j<11:=by
   have:=(bf.1 hj).1;omega
  rw[h.a4R j hj2];exact hj
 have a0B:(aZ u.host).length=11:=by simp[aZ,h.ok.h.l]
 have qO:di u fr=u.aH++[58]++eP u++gX u++qF u++QC u fr:=rfl;have hah:eP u=if u.host.kind=0 then qH u else [47,47]++uH u++dE u.host++tY u:=rfl;have n8:qH u=if u.opq=false∧2<=u.path.length∧u.path.head? = some []then [47,46]else []:=rfl;have hpo:tY u=if u.bq then [58]++Lib.itoa u.port else []:=rfl;have Uq:qF u=if u.bS then [63]++u.q else []:=rfl;have GC:QC u fr=if u.bZ&&fr then [35]++u.f else []:=rfl;have l1:=Fg u hs;have l2:=sO u.host h.ok.h 102400000 hs.name;have l3:=vr u h.ok hs;have l4:=zy u hs;have l5:=S1 u hs;have l6:=DZ u.port h.ok.p.1 h.ok.p.2;have l7:=hs.aH;have l8:=hs.q;have l9:=hs.f;have LL:=h_ (And.intro l1 (And.intro l2 (And.intro l3 (And.intro l4 (And.intro l5 (And.intro l6 (And.intro l7 (And.intro l8 l9))))))));clear l1 l2 l3 l4 l5 l6 l7 l8 l9 h hs hE;generalize aZ u.host=c11 at hC a0B Q8;generalize di u fr=RS at qO ⊢;generalize uH u=WH at *;generalize dE u.host=HO at *;generalize tY u=PO at *;generalize eP u=AH at *;generalize qH u=DO at *;generalize gX u=PA at *;generalize qF u=QU at *;generalize QC u fr=FR at *;generalize Lib.itoa u.port=IT at *;generalize u.aH=aH at *;generalize u.host.kind=K at *;generalize u.bq=bq at *;generalize u.port=port at *;generalize u.opq=opq at *;generalize u.path=path at *;generalize u.bS=bS at *;generalize u.q=q at *;generalize u.bZ=bZ at *;generalize u.f=f at *;have a8n:=h_ hwho;clear hwho;have a2V:=h_ Q8;clear Q8;have a23:=h_ Yw;clear Yw;have a2W:=h_ Ys;clear Ys;have a7m:=h_ hC;clear hC;have a7L:=h_ a0B;clear a0B;have yq:=h_ qO;clear qO;have HAH:=h_ hah;clear hah;have a7u:=h_ n8;clear n8;have FE:=h_ hpo;clear hpo;have HQF:=h_ Uq;clear Uq;have HFF:=h_ GC;clear GC;have HP:=h_ hp;clear hp;have fL:=h_ hsz;clear hsz;have HH:=h_ (And.intro h3 (And.intro h14 (And.intro V2 (And.intro h16 (And.intro h18 (And.intro h19 (And.intro h20 (And.intro h21 h22))))))));clear h3 h14 V2 h16 h18 h19 h20 h21 h22;go_enter func56,ntmps56
 go_upto_region 4 with(first
  |(refine boxed rfl _ _ rfl cs rfl ?_;intro bx w1 hb1 hb2 hb3 hb4 hb5;have HC:=h_ hb4;have HB:=h_ hb5;have qg:=h_ hb2;have c0:=(Yi ((Below.refl w1.heap.size w1).alloc (af _) (.cells #[.pointer none,.slice none 0 0] 79)) hb2 hb4 0).trans h0;clear hb1 hb2 hb3 hb4 hb5)
  |(go_at_call 49;refine(Hb.ws aH (Hb.fresh w1) (by have:=LL.out;simp;omega)).mono ?_;rintro e w2 ⟨rfl,oL⟩;have ul:=h_ oL;clear oL)
  |(go_at_call 54;refine(Hb.Uv 58 _ rfl ul.out (by have:=LL.out;simp;omega)).mono ?_;rintro e w3 ⟨rfl,rK⟩;have mr:=h_ rK;clear rK)
  |fail)
 have hH:=HH.out;obtain⟨h3,h14,V2,h16,h18,h19,h20,h21,h22⟩:=hH;have CB:=h_ (fun(W:World) (l:Bytes) (hb:Hb w1 l W) (i:Nat)=>Yi hb.bL qg.out HC.out i);have BW:=h_ (fun(W:World) (l:Bytes) (hb:Hb w1 l W)=>HB.out.trans (hb.bL.mono HB.out.size));have c3:=(CB.out _ _ mr.out 3).trans h3
 go_upto_if 13 with fail
 go_cut []from 6 (fun wx=>Hid (Hb w1 (aH++[58]++AH) wx))
 case first =>
  by_cases hk:K=0
  ·have hah:=HAH.out
   rw[if_pos hk]at hah;subst hah;obtain⟨av,cc,hpv⟩:=dN HP.out;rw[am]at hpv;subst hpv;have c16:=(CB.out _ _ mr.out 16).trans h16;have c18:=(CB.out _ _ mr.out 18).trans h18;have n8:=a7u.out;cases opq
   ·cases path with
    |nil =>
     rw[if_neg (by simp)]at n8;subst n8
     go_wp2_with fail
     go_meet
     case rel =>
      show Hb w1 (aH++[58]++[]) _;rw[aG];exact mr.out
    |cons p0 ps =>
     have hpp:=HP.out;cases ps with
     |nil =>
      rw[if_neg (by simp)]at n8;subst n8
      go_wp2_with fail
      go_meet
      case rel =>
       show Hb w1 (aH++[58]++[]) _;rw[aG];exact mr.out
     |cons p1 ps =>
      obtain⟨pb,po,rfl,hpb,hpc⟩:=kT (hpp.below (BW.out _ _ mr.out)) 0 (by simp);simp only[jc,dU]at hpc;have b1p:(2:Int)<=((p0::p1::ps).length:Nat):=by simp;omega
      by_cases hp0:p0=[]
      ·subst hp0
       rw[if_pos (by simp)]at n8;subst n8;have e1:(bs []).toList.isEmpty=true:=by rw[ay];rfl
       have e2:(bs []).toList=[]:=ay _
       go_wp2_with (first
        |(go_at_call 49;refine(Hb.ws [47,46] mr.out (by have:=LL.out;simp;omega)).mono ?_;rintro e w4 ⟨rfl,QS⟩;have Al:=h_ QS;clear QS)
        |fail)
       go_meet
       case rel=>exact Al.out
      rw[if_neg (by simp[hp0])]at n8;subst n8;have e1:(bs p0).toList.isEmpty=false:=by rw[ay];simpa using hp0
      have e2:¬ (bs p0).toList=[]:=by rw[ay];exact hp0
      go_wp2_with fail
      go_meet
      case rel =>
       show Hb w1 (aH++[58]++[]) _;rw[aG];exact mr.out
   rw[if_neg (by simp)]at n8;subst n8
   go_wp2_with fail
   go_meet
   case rel =>
    show Hb w1 (aH++[58]++[]) _;rw[aG];exact mr.out
  have hah:=HAH.out;rw[if_neg hk]at hah;have a2F:=h_ hah;clear hah;have hpo:=FE.out;have c14:=fun W (hW:Hb w1 (aH++[58]++[47,47]++WH++HO) W)=>(CB.out _ _ hW 14).trans h14;have c15:=fun W (l:Bytes) (hW:Hb w1 l W)=>(CB.out _ _ hW 15).trans V2;have a7n:=h_ c14;clear c14;have a7o:=h_ c15;clear c15
  go_wp2_with fail
  refine(Hb.ws [47,47] mr.out (by have:=LL.out;simp;omega)).mono ?_;rintro e w4 ⟨rfl,hbd⟩;have Al:=h_ hbd;clear hbd
  go_wp2_with (first
   |(refine wpList_load_mid rfl 30 _ rfl bx 0 rfl cs.toList _ (pi 0 (fun i=>by rw[bC];exact CB.out _ _ Al.out i)) underlying30 rfl (by rw[fJ,fL.out];kernel_rfl) ?_)
   |fail)
  rw[jZ];refine(a8n.out _).mono ?_;rintro e w5 ⟨rfl,hb5⟩;have Y6:=h_ (Al.out.step hb5);clear hb5
  go_wp2_with fail
  refine(Hb.ws WH Y6.out (by have:=LL.out;simp;omega)).mono ?_;rintro e w6 ⟨rfl,hbd⟩;have Y7:=h_ hbd;clear hbd
  go_wp2_with (first
   |(refine wpList_load_mid rfl 27 _ rfl bx 3 rfl c11 _ (fun j v hv=>by rw[CB.out _ _ Y7.out (3+j)];exact a7m.out j v hv) underlying27 rfl (by rw[a7L.out];kernel_rfl) ?_)
   |fail)
  refine(a2V.out _ (BW.out _ _ Y7.out)).mono ?_;rintro e w7 ⟨rfl,Ft⟩;have a7j:=h_ (Y7.out.step Ft);clear Ft
  go_wp2_with fail
  refine(Hb.ws HO a7j.out (by have:=LL.out;simp;omega)).mono ?_;rintro e w8 ⟨rfl,hbd⟩;have a7k:=h_ hbd;clear hbd;have h8:=a7k.out;have e8:[]++aH++[58]++[47,47]++WH++HO=aH++[58]++[47,47]++WH++HO:=rfl;rw[e8]at h8;have c14:=a7n.out _ h8;cases bq
  ·have Wf:PO=[]:=hpo
   clear hpo;subst Wf
   go_wp2_with fail
   go_meet
   case rel =>
    show Hb w1 (aH++[58]++AH) _;rw[a2F.out];simp only[aG,aT]at h8 ⊢;exact h8
  have Wf:PO=[58]++IT:=hpo;have a72:=h_ Wf;clear hpo Wf;have H8:=h_ h8;clear h8
  go_wp2_with fail
  refine(Hb.Uv 58 _ rfl H8.out (by have:=LL.out;simp;omega)).mono ?_;rintro e w9 ⟨rfl,hbd⟩;have Y8:=h_ hbd;clear hbd;have c15:=a7o.out _ _ Y8.out
  go_wp2_with fail
  refine(a2W.out _ (BW.out _ _ Y8.out)).mono ?_;rintro e BX ⟨rfl,a4p⟩;have a2I:=h_ (Y8.out.step a4p);clear a4p
  go_wp2_with fail
  refine(Hb.ws IT a2I.out (by have:=LL.out;simp;omega)).mono ?_;rintro e Uu ⟨rfl,hbd⟩;have a2J:=h_ hbd;clear hbd
  go_wp2_with fail
  go_meet
  case rel =>
   show Hb w1 (aH++[58]++AH) _;rw[a2F.out,a72.out];have h:=a2J.out;simp only[aT]at h ⊢;exact h
 case rest =>
  have HA:=hcut;clear hcut;clear mr ul c0 c3
  go_wp2_with (first
   |(refine wpList_load_mid rfl 30 _ rfl bx 0 rfl cs.toList _ (pi 0 (fun i=>by rw[bC];exact CB.out _ _ HA.out i)) underlying30 rfl (by rw[fJ,fL.out];kernel_rfl) ?_)
   |fail)
  try rw[jZ]
  refine(a23.out _ (BW.out _ _ HA.out)).mono ?_;rintro e w4 ⟨rfl,hb4⟩;have HA2:=h_ (HA.out.step hb4);clear hb4
  go_wp2_with fail
  refine(Hb.ws PA HA2.out (by have:=LL.out;simp;omega)).mono ?_;rintro e w5 ⟨rfl,hbd⟩;have OC:=h_ hbd;clear hbd;have c19:=(CB.out _ _ OC.out 19).trans h19
  go_upto_if 50 with fail
  go_cut []from 6 (fun wx=>Hid (Hb w1 (aH++[58]++AH++PA++QU) wx))
  case first =>
   have Uq:=HQF.out;cases bS
   ·have hq2:QU=[]:=Uq
    subst hq2
    go_wp2_with fail
    go_meet
    case rel =>
     show Hb w1 (aH++[58]++AH++PA++[]) _;rw[aG];exact OC.out
   have hq2:QU=[63]++q:=Uq;have HQ2:=h_ hq2;clear hq2
   go_wp2_with fail
   refine(Hb.Uv 63 _ rfl OC.out (by have:=LL.out;simp;omega)).mono ?_;rintro e w20 ⟨rfl,hbd⟩;have Ck:=h_ hbd;clear hbd;have cq:=(CB.out _ _ Ck.out 20).trans h20
   go_wp2_with fail
   refine(Hb.ws q Ck.out (by have:=LL.out;simp;omega)).mono ?_;rintro e w21 ⟨rfl,hbd⟩;have OD:=h_ hbd;clear hbd
   go_wp2_with fail
   go_meet
   case rel =>
    show Hb w1 (aH++[58]++AH++PA++QU) _;rw[HQ2.out];have h:=OD.out;simp only[aT]at h ⊢;exact h
  case rest =>
   have HB3:=hcut;clear hcut c19;have c21:=(CB.out _ _ HB3.out 21).trans h21;have GC:=HFF.out;cases bZ <;>cases fr
   case true.true =>
    have hq2:FR=[35]++f:=GC;have HQ2:=h_ hq2;clear GC hq2
    go_wp2_with fail
    refine(Hb.Uv 35 _ rfl HB3.out (by have:=LL.out;simp;omega)).mono ?_;rintro e w20 ⟨rfl,hbd⟩;have Ck:=h_ hbd;clear hbd;have cq:=(CB.out _ _ Ck.out 22).trans h22
    go_wp2_with fail
    refine(Hb.ws f Ck.out (by have:=LL.out;simp;omega)).mono ?_;rintro e w21 ⟨rfl,hbd⟩;have OD:=h_ hbd;clear hbd
    go_wp2_with fail
    refine(Hb.str OD.out).mono ?_;rintro e w30 ⟨rfl,QQ⟩;have Y4:=h_ QQ;clear QQ
    go_wp2_with fail
    go_ret;refine⟨?_,HB.out.trans (Y4.out.mono HB.out.size)⟩;rw[yq.out,HQ2.out];simp only[aT];rfl
   all_goals
    have hq2:FR=[]:=GC;have HQ2:=h_ hq2;clear GC hq2
    go_wp2_with fail
    refine(Hb.str HB3.out).mono ?_;rintro e w30 ⟨rfl,QQ⟩;have Y4:=h_ QQ;clear QQ
    go_wp2_with fail
    go_ret;refine⟨?_,HB.out.trans (Y4.out.mono HB.out.size)⟩;rw[yq.out,HQ2.out];simp only[aG,aT];rfl

def S8(d:Bytes)(has:Bool)(u:Bytes):Bytes:=if has then d++[59,32,117,114,108,61]++u else d
theorem W6(d u:Bytes)(has:Bool)(w:World)(hd:d.length<=1024000000)(hu:u.length<=160000000000) :
  bN prog 59 #[.agg #[S d,.bool has,S u]] w (S (S8 d has u)):=by
 cases has
 all_goals
  go_enter func59,ntmps59
  go_wp2_with fail
  go_ret;refine⟨By ?_,(Below.refl _ _).alloc (af _) _⟩;simp[S8,Hc,Kg]
def lR(l:Bytes):Bool:=(l.all fun x=>!mA (b2 x)) && !l.isEmpty && !(Lib.hasPrefix l [44]) && !(Lib.hasSuffix l [44])
theorem Gr{l:Bytes}{k:Nat}(hk:k<l.length)(h:mA (b2 l[k])=true):lR l=false:=by
 have:(l.all fun x=>!mA (b2 x))=false:=by
  rw[Oh];exact⟨l[k],bw hk,by simp[h]⟩
 unfold lR;rw[this];rfl
theorem ZD{l:Bytes}(h:∀ k (hk:k<l.length),mA (b2 l[k])=false):(l.all fun x=>!mA (b2 x))=true:=by
 rw[bo];intro x hx;obtain⟨k,hk,rfl⟩:=dz hx;simp[h k hk]
theorem DA(u:Url)(cs:Array Value)(pv:Value)(w:World)(h:vo cs pv u)(hp:Sl w.heap.size w pv (u.path.map S))(hs:ke u)(hE:NE w) :
  bN prog 24 #[.agg cs] w (.bool (lR (di u true))):=by
 have qO:=fun W (hW:Below w.heap.size w W)=>BQ u cs pv true W h ((hp.below hW).more hW.size) hs (hE.below hW);have hlen:=EO u h.ok hs true;have hsz:=h.sz;clear h hp hs hE;generalize di u true=T at qO hlen ⊢;obtain⟨s,hs⟩:=az (bs T);have a45:s.size=T.length:=by rw[hs,aM]
 have hby:∀ k (hk:k<s.size) (hk2:k<T.length),((s[k]'hk).toNat:Int)=b2 T[k]:=fun k hk hk2=>cJ hs hk hk2
 have hpre:∀ W,bV prog 57 #[.string s,.string ⟨#[44]⟩] W (.bool (Lib.hasPrefix T [44])):=fun W=>by
  have h:=Any.strings_HasPrefix laysHP s ⟨#[44]⟩ W;rw[show s.data.toList=T by rw[hs];exact dR T]at h;exact h
 have a0J:∀ W,bV prog 39 #[.string s,.string ⟨#[44]⟩] W (.bool (Lib.hasSuffix T [44])):=fun W=>by
  have h:=Any.strings_HasSuffix laysHS s ⟨#[44]⟩ W (by omega);rw[show s.data.toList=T by rw[hs];exact dR T]at h;exact h
 obtain⟨em,hem⟩:=az (T.isEmpty);have hemp:(s.toList.isEmpty)=em:=by rw[hs,ay,hem]
 have JM:(s.toList=[]) ↔ em=true:=by rw[hs,ay,hem];simp
 obtain⟨hp,Ba⟩:=az (Lib.hasPrefix T [44]);obtain⟨hx,hhx⟩:=az (Lib.hasSuffix T [44]);rw[<-Ba]at hpre;rw[<-hhx]at a0J;dsimp only[S]at qO;rw[<-hs]at qO;clear hs;obtain⟨N,hN⟩:=az (s.size);have lk:s.size=N:=hN.symm;have p7:N<=5120000000:=by omega
 have kd:=h_ hby;clear hby;have a3c:=h_ a45;clear a45 hlen hN;have yq:=h_ qO;clear qO;have fL:=h_ hsz;clear hsz;have HEM:=h_ hem;clear hem;have IO:=h_ Ba;clear Ba;have HHX:=h_ hhx;clear hhx;have HE1:=h_ hemp;have HE2:=h_ JM;clear hemp JM;have a73:=h_ hpre;clear hpre;have a8d:=h_ a0J;clear a0J;go_enter func24,ntmps24
 go_wp2_with (first
  |(refine boxed rfl _ _ rfl cs rfl ?_;intro bx w1 hb1 hb2 hb3 hb4 hb5;have HC:=h_ hb4;have HB:=h_ hb5;have qg:=h_ hb2;clear hb1 hb2 hb3 hb4 hb5)
  |(refine wpList_load_mid rfl 30 _ rfl bx 0 rfl cs.toList _ (pi 0 (fun i=>by rw[bC];exact HC.out i)) underlying30 rfl (by rw[fJ,fL.out];kernel_rfl) ?_)
  |(go_at_call 56;try rw[jZ];refine(yq.out _ HB.out).mono ?_;rintro e1 w2 ⟨rfl,hb2⟩;have HB2:=h_ (HB.out.trans (hb2.mono HB.out.size));clear hb2)
  |fail)
 go_loopw [4] (fun iv wr=>∃ k:Nat,k<=N∧iv=.int .i64 k∧Hid (∀j (hj:j<T.length),j<k->mA (b2 T[j])=false)∧w2=wr) (fun i _=>N-(intOf i).toNat)
 case atStart=>exact⟨0,by omega,by simp,fun j _ h=>absurd h (cg j),rfl⟩
 case round =>
  obtain⟨k,hk,rfl,hnb,rfl⟩:=hrel;by_cases hlt:k<N
  ·have nS:k<s.size:=by omega
   have hkl:k<T.length:=by have:=a3c.out;omega
   have hby:=kd.out k nS hkl;have hbl:=fun W=>jN (b2 T[k]) W;have hrr:=jr T[k];cases hc:mA (b2 T[k])
   ·rw[hc]at hbl
    have UP:=h_ (show ∀j (hj:j<T.length),j<k+1->mA (b2 T[j])=false from fun j hj h=>by
     rcases cZ j k with h1|h1
     ·exact hnb.out j hj h1
     obtain rfl:j=k:=by omega
     exact hc)
    clear hc hnb;generalize b2 T[k]=x at hby hbl hrr;have mW:=h_ hbl;clear hbl
    go_wp2_with (first|(go_at_call 37;refine(mW.out _).mono ?_;rintro e3 w3 ⟨rfl,hw3⟩;subst hw3)|fail)
    go_roundw
    case rel=>exact⟨k+1,by omega,by simp,UP.out,by trivial⟩
    case measure=>simp[intOf];omega
   rw[hc]at hbl;have HF:=h_ (Gr hkl hc);clear hc hnb;generalize b2 T[k]=x at hby hbl hrr;have mW:=h_ hbl;clear hbl
   go_wp2_with (first|(go_at_call 37;refine(mW.out _).mono ?_;rintro e3 w3 ⟨rfl,hw3⟩;subst hw3)|fail)
   go_ret;exact⟨by rw[HF.out];rfl,HB2.out⟩
  obtain rfl:k=N:=by omega
  have hall:(T.all fun x=>!mA (b2 x))=true:=ZD fun j hj=>hnb.out j hj (by have:=a3c.out;omega)
  have hfit:lR T=(!em && !hp && !hx):=by
   unfold lR;rw[hall,<-HEM.out,<-IO.out,<-HHX.out];rfl
  have a7z:=h_ hfit;clear hfit hall hnb;have hemp:=HE1.out;have JM:=HE2.out;cases em <;>cases hp <;>cases hx
  all_goals
   simp only[fd,iff_false,iff_true]at JM
   go_wp2_with (first
    |(go_at_call 57;refine(a73.out _).mono ?_;rintro e3 w3 ⟨rfl,hw3⟩;subst hw3)
    |(go_at_call 39;refine(a8d.out _).mono ?_;rintro e4 w4 ⟨rfl,hw4⟩;subst hw4)
    |fail)
   go_ret;exact⟨by rw[a7z.out];rfl,HB2.out⟩
theorem a5J(x:UInt8)(r:Bytes):Lib.hasPrefix (x::r) [44]=decide (b2 x=44):=by
 have h3:Lib.hasPrefix (x::r) [44]=((44:UInt8)==x):=by simp[Lib.hasPrefix,List.isPrefixOf]
 rw[h3];by_cases h:x=44
 ·subst h;rfl
 have h2:((44:UInt8)==x)=false:=by simpa using Ne.symm h
 rw[h2];symm
 apply decide_eq_false
 intro h1
 apply h
 apply fH.mp
 have h4:(x.toNat:Int)=44:=h1;have h5:(44:UInt8).toNat=44:=rfl;omega
theorem a5W(x:UInt8)(r:Bytes):Lib.hasSuffix (r++[x]) [44]=decide (b2 x=44):=by
 have h:=a5J x r.reverse;unfold Lib.hasSuffix List.isSuffixOf;rw[iD];exact h

structure eG where
 right:Bool
 url:Url
 words:List Bytes
def aO(pv wv:Value)(i:eG):List Value:=.bool i.right::(aV pv i.url++[wv])
def tF(B:Nat)(w:World)(b o:Nat)(i:eG):Prop:=∃ pv wv,w.rangeAt b o (aO pv wv i)∧gI i.url∧Sl B w pv (i.url.path.map S)∧Sl B w wv (i.words.map S)
def Items(B:Nat)(w:World)(v:Value)(l:List eG):Prop :=
 ∃c,l.length<=c∧((l=[]∧∃ a,v=.slice a 0 c)∨∃ b o,b<B∧v=.slice (some ⟨b,o,none⟩) l.length c∧∀ k (hk:k<l.length),tF B w b (o+k*25) l[k])
theorem tF.below{B b o:Nat}{w w':World}{i:eG}(h:tF B w b o i)(hb:Below B w w')(hB:b<B):tF B w' b o i:=by
 obtain⟨pv,wv,h1,h2,h3,h4⟩:=h;exact⟨pv,wv,fun j v hj=>(hb.cell (p:=⟨b,o+j,none⟩) hB).trans (h1 j v hj),h2,h3.below hb,h4.below hb⟩
theorem tF.more{B B' b o:Nat}{w:World}{i:eG}(h:tF B w b o i)(hB:B<=B'):tF B' w b o i:=by
 obtain⟨pv,wv,h1,h2,h3,h4⟩:=h;exact⟨pv,wv,h1,h2,h3.more hB,h4.more hB⟩
theorem Items.below{B:Nat}{w w':World}{v:Value}{l:List eG}(h:Items B w v l)(hb:Below B w w'):Items B w' v l:=by
 obtain⟨c,hc,h⟩:=h;refine⟨c,hc,?_⟩;rcases h with h|⟨b,o,hB,hv,ha⟩
 ·exact .inl h
 exact .inr ⟨b,o,hB,hv,fun k hk=>(ha k hk).below hb hB⟩
theorem Items.more{B B':Nat}{w:World}{v:Value}{l:List eG}(h:Items B w v l)(hB:B<=B'):Items B' w v l:=by
 obtain⟨c,hc,h⟩:=h;refine⟨c,hc,?_⟩;rcases h with h|⟨b,o,hb,hv,ha⟩
 ·exact .inl h
 exact .inr ⟨b,o,by omega,hv,fun k hk=>(ha k hk).more hB⟩
theorem sR{B:Nat}{w:World}{v:Value}{l:List eG}(h:Items B w v l):∃ a c,v=.slice a l.length c:=by
 obtain⟨c,hc,h⟩:=h;rcases h with⟨rfl,a,rfl⟩|⟨b,o,_,rfl,_⟩
 ·exact⟨a,c,rfl⟩
 exact⟨_,c,rfl⟩
theorem wN{B:Nat}{w:World}{a:Option Addr}{n c:Nat}{l:List eG}(h:Items B w (.slice a n c) l)(k:Nat)(hk:k<l.length) :
  ∃b o,a=some ⟨b,o,none⟩∧b<B∧tF B w b (o+k*25) l[k]:=by
 obtain⟨c',_,h⟩:=h;rcases h with⟨rfl,_⟩|⟨b,o,hb,hv,ha⟩
 ·simp at hk
 injection hv with h1 h2 h3
 exact⟨b,o,h1,hb,ha k hk⟩
theorem de(pv:Value)(u:Url)(ok:gI u):(aV pv u).length=23:=by
 simp[aV,aZ,ok.h.l]
theorem nt(pv wv:Value)(i:eG)(ok:gI i.url):(aO pv wv i).length=25:=by
 simp[aO,de pv i.url ok]
theorem Kc{w:World}{b o:Nat}{pv wv:Value}{i:eG}(h:w.rangeAt b o (aO pv wv i)):w.rangeAt b (o+1) (aV pv i.url):=by
 intro j v hj
 have:=h (j+1) v (by
  have hl:=(bf.1 hj).1;unfold aO;rw[cC,cH hl];exact hj)
 rw[show o+1+j=o+(j+1) by omega];exact this
theorem MH{w:World}{b o:Nat}{pv wv:Value}{i:eG}(ok:gI i.url)(h:w.rangeAt b o (aO pv wv i)):w.cell? ⟨b,o+24,none⟩=some wv:=by
 refine h 24 wv ?_;unfold aO;rw[cC,cu (by rw[de pv i.url ok];omega),de pv i.url ok];rfl
theorem cells_one(pv wv:Value)(i:eG)(hp:pv.oneCell'=true)(hw:wv.oneCell'=true):(aO pv wv i).toArray.all (·.oneCell')=true:=by
 refine all_oneCell_toArray fun v hv=>?_;simp only[aO,aV,aZ,aj,au,cm,bl,or_false]at hv;rcases hv with rfl|((((rfl|rfl|rfl)|(rfl|rfl|rfl|⟨n,_,rfl⟩))|h)|rfl)
 all_goals first|rfl|assumption|skip
 rcases h with rfl|rfl|rfl|rfl|rfl|rfl|rfl|rfl|rfl
 all_goals first|rfl|assumption
theorem BH{B:Nat}{w:World}{v:Value}{xs:List Value}(h:Sl B w v xs):v.oneCell'=true:=by
 obtain⟨a,c,rfl⟩:=dN h;rfl
def ZI:Array Value:=#[.bool false,.string ⟨#[]⟩,.string ⟨#[]⟩,.string ⟨#[]⟩,.int .i64 0,.string ⟨#[]⟩,.int .u32 0,.int .u16 0,.int .u16 0,.int .u16 0,.int .u16 0,.int .u16 0,.int .u16 0,.int .u16 0,.int .u16 0,.bool false,.int .i64 0,.bool false,.string ⟨#[]⟩,.slice none 0 0,.bool false,.string ⟨#[]⟩,.bool false,.string ⟨#[]⟩,.slice none 0 0]
theorem allI(w:World):(Instr.alloc 41 true (Value.tuple #[])).run prog w=.ok (.pointer (some ⟨w.heap.size,0,none⟩)) (w.alloc (.cells ZI 41)):=by kernel_rfl
def Kb(nb:Nat)(C:Array Value)(w:World):Prop:=w.heap[nb]? = some (.cells C 41 (0,0))
theorem Kb.cell{nb:Nat}{C:Array Value}{w:World}(h:Kb nb C w)(i:Nat):w.cell? ⟨nb,i,none⟩=C[i]?:=Go.Joins.cell_of_block h i
theorem Kb.below{nb:Nat}{C:Array Value}{w w':World}(h:Kb nb C w)(hb:Below w.heap.size w w'):Kb nb C w':=by
 have hlt:nb<w.heap.size:=by
  rcases cZ nb w.heap.size with hlt|hge
  ·exact hlt
  unfold Kb at h;rw[dm hge]at h;cases h
 exact(hb.block nb hlt).trans h
theorem Kb.fr{nb:Nat}{C:Array Value}{w w':World}{b:Nat}{g:Option Nat}{l:Bytes}(h:Kb nb C w)(hB:tD b g l w)(hf:Fr (fun k=>k=b∨g=some k) w w'):Kb nb C w':=by
 have hlt:nb<w.heap.size:=by
  rcases cZ nb w.heap.size with hlt|hge
  ·exact hlt
  unfold Kb at h;rw[dm hge]at h;cases h
 refine(hf.block nb hlt ?_).trans h
 have key:∀ p,rj p b g l w->¬ (nb=b∨g=some nb):=by
  rintro p ⟨v,hb,ho,hg⟩ hx;unfold Kb at h;rcases hx with rfl|hx
  ·rw[hb]at h
   injection h with h
   injection h with _ h
   revert h;decide
  rcases ho.2 with⟨rfl,_⟩|⟨g',cap,cur,rfl,_,hg',_⟩
  ·rw[<-hg]at hx;cases hx
  have e:g'=nb:=by rw[<-hg]at hx;injection hx
  rw[e]at hg';rw[hg']at h;injection h with h
  injection h with _ h
  revert h;decide
 rcases hB with hB|hB
 ·exact key _ hB
 exact key _ hB
theorem Hb.ws2{wb w:World}{l:Bytes}{nb:Nat}{C:Array Value}(m:Bytes)(h:Hb wb l w)(hk:Kb nb C w)(hlen:l.length+m.length<=1099511627776) :
  Calls prog 49 #[.pointer (some ⟨wb.heap.size,0,none⟩),S m] w fun e w'=>e=.returned (.tuple #[.int .i64 m.length,.nilIface])∧Hb wb (l++m) w'∧Kb nb C w':=by
 obtain⟨g,h1,h2⟩:=h.bld;refine(iT m h1 hlen).mono ?_;rintro e w' ⟨rfl,hr⟩;refine⟨rfl,Hb.Bo h2 h.bL hr,?_⟩;obtain⟨_,_,_,hf⟩:=hr;exact hk.fr h1 hf
theorem Hb.wb2{wb w:World}{l:Bytes}{nb:Nat}{C:Array Value}(m:UInt8)(n:Int)(hn:n=b2 m)(h:Hb wb l w)(hk:Kb nb C w)(hlen:l.length+1<=1099511627776) :
  Calls prog 54 #[.pointer (some ⟨wb.heap.size,0,none⟩),.int .u8 n] w fun e w'=>e=.returned .nilIface∧Hb wb (l++[m]) w'∧Kb nb C w':=by
 subst hn;obtain⟨g,h1,h2⟩:=h.bld;refine(qx m h1 hlen).mono ?_;rintro e w' ⟨rfl,hr⟩;refine⟨rfl,Hb.Bo h2 h.bL hr,?_⟩;obtain⟨_,_,_,hf⟩:=hr;exact hk.fr h1 hf
structure Cx (i:eG):Prop where
 url:ke i.url
 n:i.words.length<=10
 w:∀ x∈i.words,x.length<=100
def cy(l:List Bytes):Bytes:=l.flatMap fun x=>[32]++x
def dQ(i:eG):Bytes:=di i.url true++cy i.words
def fM:List eG->Bytes
 | []=>[]
 |x::r=>dQ x++r.flatMap fun y=>[44,32]++dQ y
theorem Fj(l:List Bytes)(k:Nat)(hk:k<l.length):cy (l.take (k+1))=cy (l.take k)++[32]++l[k]:=by
 unfold cy;rw[aI hk,cQ,ch,uQ,aG,aT]
theorem yf:∀ (l:List Bytes),(∀x∈l,x.length<=100)->(cy l).length<=101*l.length
 | [],_=>by simp[cy]
 |x::l,h=>by
  have h1:=yf l (fun y hy=>h y (be _ hy));have h2:=h x bM;simp only[cy,ch,ae,ag,aN]at h1 ⊢;omega
theorem zi(i:eG)(ok:gI i.url)(h:Cx i):(dQ i).length<=5120002000:=by
 have h1:=EO i.url ok h.url true;have h2:=yf i.words h.w;have h3:=h.n;unfold dQ;rw[ae];omega
theorem G7(l:List eG)(k:Nat)(hk:k<l.length):fM (l.take (k+1))=fM (l.take k)++(if k=0 then []else [44,32])++dQ l[k]:=by
 cases l with
 |nil=>simp at hk
 |cons x r =>
  cases k with
  |zero=>simp[fM]
  |succ k =>
   have hk':k<r.length:=by simpa using hk
   rw[cY,cY,if_neg (by omega)];simp only[fM,b0Q];rw[aI hk',cQ,ch,uQ,aG];simp only[aT]

theorem MR:∀ (l:List eG),(∀i∈l,gI i.url)->(∀i∈l,Cx i)->(fM l).length<=5122050048*l.length
 | [],_,_=>by simp[fM]
 |x::r,h1,h2=>by
  have hr:∀ (r:List eG),(∀i∈r,gI i.url)->(∀i∈r,Cx i)->(r.flatMap fun y=>[44,32]++dQ y).length<=5122050048*r.length:=by
   intro r
   induction r with
   |nil=>simp
   |cons y r ih =>
    intro h1 h2;have h3:=ih (fun i hi=>h1 i (be _ hi)) (fun i hi=>h2 i (be _ hi));have h4:=zi y (h1 y bM) (h2 y bM);simp only[ch,ae,ag,aN]at h3 ⊢;omega
  have h3:=hr r (fun i hi=>h1 i (be _ hi)) (fun i hi=>h2 i (be _ hi));have h4:=zi x (h1 x bM) (h2 x bM);simp only[fM,ae,ag];omega
theorem wO{B:Nat}{w:World}{v:Value}{l:List eG}(h:Items B w v l):∀ i∈l,gI i.url:=by
 intro i hi;obtain⟨k,hk,rfl⟩:=dz hi;obtain⟨a,c,rfl⟩:=sR h;obtain⟨b,o,_,_,⟨_,_,_,h2,_,_⟩⟩:=wN h k hk;exact h2
theorem a1G{ops:Array Oper}{rest:List Oper}{o:Oper}{a:Act}{w:World}{Q:Exit->Act->World->Prop}(hgd:o.guard=none)(x y:Operand)(ho:o.op=.store 41 x y)(pv wv:Value)(it:eG)
  (hx:a.eval x=.pointer (some ⟨w.heap.size,0,none⟩)) (hy:a.eval y=.agg (aO pv wv it).toArray) (ok:gI it.url) (h1:(aO pv wv it).toArray.all (·.oneCell')=true)
  (h:wpList prog ops Q rest (a.put o.dst undef) (w.alloc (.cells (aO pv wv it).toArray 41))):wpList prog ops Q (o::rest) a (w.alloc (.cells ZI 41)):=by
 have hl:=nt pv wv it ok;exact gD hgd 41 x y ho (aO pv wv it).toArray ZI 41 hx hy (by rw[eJ,hl];kernel_rfl) (by rw[show(aO pv wv it).toArray.size=25 by rw[eJ,hl]];rfl) h1 h
theorem a01{nb:Nat}{pv wv:Value}{it:eG}{w:World}(h:Kb nb (aO pv wv it).toArray w):w.rangeAt nb 1 (aV pv it.url):=by
 have h0:w.rangeAt nb 0 (aO pv wv it):=fun j v hj=>by
  rw[bC,h.cell j,bT];exact hj
 exact Kc h0
theorem RP{nb:Nat}{pv wv:Value}{it:eG}{w:World}(ok:gI it.url)(h:Kb nb (aO pv wv it).toArray w):w.cell? ⟨nb,24,none⟩=some wv:=by
 have h0:w.rangeAt nb 0 (aO pv wv it):=fun j v hj=>by
  rw[bC,h.cell j,bT];exact hj
 have:=MH ok h0;rw[bC]at this;exact this
theorem N0(l:List Bytes)(k:Nat):(cy (l.take k)).length<=(cy l).length:=by
 have h:cy l=cy (l.take k)++cy (l.drop k):=by
  unfold cy;rw[<-List.flatMap_append,cX]
 rw[h,ae];omega
theorem Fi:∀ l:List Bytes,l.length<=(cy l).length
 | []=>af _
 |x::r=>by
  have:=Fi r;simp only[cy,ch,ae,ag,aN]at this ⊢;omega
theorem IK{l:List Bytes}{x:Bytes}(h:x∈l):x.length<=(cy l).length:=by
 obtain⟨a,b,rfl⟩:=List.append_of_mem h;simp only[cy,cQ,ch,ae];omega
theorem R9(l:List eG)(k:Nat):(fM (l.take k)).length<=(fM l).length:=by
 cases l with
 |nil=>simp
 |cons x r =>
  cases k with
  |zero=>exact aK _
  |succ k =>
   have h:(r.flatMap fun y=>[44,32]++dQ y)=((r.take k).flatMap fun y=>[44,32]++dQ y)++((r.drop k).flatMap fun y=>[44,32]++dQ y):=by
    rw[<-List.flatMap_append,cX]
   rw[cY];show(dQ x++_).length<=(dQ x++_).length;rw[h];simp only[ae];omega
theorem LQ(l:List eG)(v:Value)(w:World)(h:Items w.heap.size w v l)(hs:∀ i∈l,ke i.url)(hm:(fM l).length<=150000000000)(hn:l.length<=1000000000)(hE:NE w) :
  bN prog 58 #[v] w (S (fM l)):=by
 have hok:=wO h;obtain⟨av,cc,hv⟩:=sR h;subst hv;obtain⟨N,hN⟩:=az (l.length);have p7:N<=1000000000:=by omega
 have hlk:∀ k,(fM (l.take k)).length<=150000000000:=fun k=>ap (R9 l k) hm;rw[<-hN]at h ⊢;have HI:=h_ h;have HS:=h_ hs;have OM:=h_ hok;have HN:=h_ hN;have HLK:=h_ hlk;have HE:=h_ hE;clear h hs hok hN hlk hE hn hm;go_enter func58,ntmps58
 go_wp2_with fail
 go_loopw [10] (fun iv wr=>∃ k:Nat,k<=N∧iv=.int .i64 k∧Hid (Hb w (fM (l.take k)) wr)) (fun i _=>N-(intOf i).toNat)
 case atStart=>exact⟨0,by omega,by simp,Hb.fresh w⟩
 case round =>
  obtain⟨k,hk,rfl,hbd⟩:=hrel;by_cases hlt:k<N
  ·have hkl:k<l.length:=by rw[<-HN.out];exact hlt
   have Mq:(k:Int)<N:=by omega
   obtain⟨b,o,rfl,hbb,hat⟩:=wN HI.out k hkl;obtain⟨pv,wv,hrg,hok,hpv,hwv⟩:=hat;have hsm:=HS.out _ (bw hkl);have htk:=G7 l k hkl;have hl0:=HLK.out k;have hl1:=HLK.out (k+1);generalize l[k]=it at hrg hok hpv hwv hsm htk;generalize fM (l.take k)=T at hbd htk hl0
   have hL:T.length+2+(dQ it).length<=150000000002:=by
    rw[htk]at hl1;simp only[ae]at hl1;omega
   have hcl:=nt pv wv it hok;have hone:=cells_one pv wv it (BH hpv) (BH hwv);have JK:vo (aV pv it.url).toArray pv it.url:=sj pv hok;have huc:=de pv it.url hok;have qO:=fun(W:World) (hW:Below w.heap.size w W) (hp:Sl W.heap.size W pv (it.url.path.map S))=>BQ it.url _ pv true W JK hp hsm (HE.out.below hW);have a4X:World.rangeAt _ b (o+k*25) (aO pv wv it):=fun j v hj=>(hbd.out.bL.cell (p:=⟨b,o+k*25+j,none⟩) hbb).trans (hrg j v hj);have Oe:=h_ a4X;clear a4X;have a22:=h_ hok;have HPV:=h_ hpv;have HWV:=h_ hwv;have HSM:=h_ hsm;have yr:=h_ htk;have yD:=h_ hL;have yj:=h_ hcl;have UR:=h_ hone;have HUC:=h_ huc;have yq:=h_ qO;clear hrg hok hpv hwv hsm htk hL hcl hone huc qO JK hl0 hl1 hlt
   go_upto_region 5 with(first
    |(refine wpList_load_mid rfl 41 _ rfl b (o+k*25) rfl (aO pv wv it) _ Oe.out underlying41 rfl (by rw[yj.out];kernel_rfl) ?_)
    |(refine aS rfl 41 rfl _ _ (allI _) ?_)
    |(refine a1G rfl (.tmp 5) (.tmp 14) rfl pv wv it rfl rfl a22.out UR.out ?_)
    |fail)
   have hk2:Kb wr.heap.size (aO pv wv it).toArray (wr.alloc (.cells (aO pv wv it).toArray 41)):=heap_alloc_new wr _;have hb2:Hb w T (wr.alloc (.cells (aO pv wv it).toArray 41)):=hbd.out.step ((Below.refl _ _).alloc (af _) _);generalize wr.heap.size=nb at hk2 hb2 ⊢;generalize wr.alloc (.cells (aO pv wv it).toArray 41)=w2 at hk2 hb2 ⊢;clear hbd Oe;obtain⟨wa,wc,hwv⟩:=dN HWV.out;rw[am]at hwv;obtain⟨M,hM⟩:=az (it.words.length);rw[<-hM]at hwv;have HM:=h_ hM;clear hM
   have a9q:(di it.url true).length+(cy it.words).length<=150000000002:=by
    have h1:(dQ it).length=(di it.url true).length+(cy it.words).length:=by unfold dQ;rw[ae]
    have:=yD.out;omega
   have hMm:M<=150000000002:=by have:=HM.out;have:=Fi it.words;omega
   have a9p:(di it.url true).length<=150000000002:=by omega
   have a5b:∀ j,(cy (it.words.take j)).length<=150000000002:=fun j=>by have:=N0 it.words j;omega
   have a5e:∀ x∈it.words,x.length<=150000000002:=fun x hx=>by have:=IK hx;omega
   have a8m:=h_ a5b;clear a5b;have a8o:=h_ a5e;clear a5e a9q;have hif:dQ it=di it.url true++cy it.words:=rfl;have HIF:=h_ hif;clear hif;have hTl:T.length+2<=150000000002:=by have:=yD.out;omega
   have hsep:k=0∨(0:Int)<k:=by omega
   rcases hsep with hk0|hk0
   all_goals first
    | (skip
       have htk:=yr.out;rw[if_pos hk0,aG]at htk;have b3F:¬ (0:Int)<k:=by omega
       clear hk0;obtain⟨T1,hT1⟩:=az (T);rw[<-hT1]at htk hb2;have a85:T1.length<=150000000002:=by rw[hT1];omega
       have HB3:=h_ hb2;have HK3:=h_ hk2;have a3d:=h_ htk;clear hT1 hb2 hk2 htk yr;obtain⟨w3,hw3⟩:=az (w2);rw[<-hw3]at HB3 HK3 ⊢;clear hw3
       go_upto_region 7 with fail)
    | (skip
       have htk:=yr.out;rw[if_neg (by omega)]at htk;obtain⟨T1,hT1⟩:=az (T++[44,32]);rw[<-hT1]at htk;have a85:T1.length<=150000000002:=by rw[hT1,ae];simp;omega
       have HT1:=h_ hT1;have HB2:=h_ hb2;have Zg:=h_ hk2;have a3d:=h_ htk;clear hT1 hb2 hk2 htk yr
       go_upto_region 7 with(first
        |(go_at_call 49;refine(Hb.ws2 [44,32] HB2.out Zg.out (by simp;omega)).mono ?_;rintro e w3 ⟨rfl,hb3,hk3⟩;have HB3:=h_ (HT1.out▸hb3);have HK3:=h_ hk3;clear hb3 hk3)
        |fail))
   all_goals
    generalize di it.url true=SE at yq HIF a9p
    go_wp2_with (first
     |(refine wpList_load_mid rfl 30 _ rfl nb 1 rfl (aV pv it.url) _ (a01 HK3.out) underlying30 rfl (by rw[HUC.out];kernel_rfl) ?_)
     |(go_at_call 56;refine(yq.out _ HB3.out.bL ((HPV.out.below HB3.out.bL).more HB3.out.bL.size)).mono ?_;rintro e w4 ⟨rfl,hb4⟩;have eM:=h_ (HB3.out.step hb4);have HK4:=h_ (HK3.out.below hb4);clear hb4)
     |(go_at_call 49;refine(Hb.ws2 SE eM.out HK4.out (by omega)).mono ?_;rintro e w5 ⟨rfl,hb5,hk5⟩;have cw:=(RP a22.out hk5).trans (congrArg some hwv);have gH:=h_ hb5;have HK5:=h_ hk5;clear hb5 hk5)
     |fail)
    have a8p:=h_ hwv;clear hwv cw
    go_loopw [25] (fun jv wr=>∃ j:Nat,j<=M∧jv=.int .i64 j∧Hid (Hb w (T1++SE++cy (it.words.take j)) wr)∧Hid (Kb nb (aO pv wv it).toArray wr)) (fun j _=>M-(intOf j).toNat)
    case atStart=>exact⟨0,by omega,by simp,(by have:=gH.out;show Hb w (T1++SE++cy []) _;rw[show cy []=[]from rfl,aG];exact this),HK5.out⟩
    case round =>
     obtain⟨j,hj,rfl,hbj,hkj⟩:=hrel;by_cases hjl:j<M
     ·have hjw:j<it.words.length:=by rw[<-HM.out];exact hjl
      have a0P:=HWV.out.below hbj.out.bL;rw[a8p.out]at a0P;obtain⟨wb,wo,rfl,hwb,hwc⟩:=kT a0P j hjw;have hwt:=Fj it.words j hjw;have hwl:=a8o.out _ (bw hjw);have hf1:=a8m.out j;generalize it.words[j]=word at hwc hwt hwl;generalize cy (it.words.take j)=U at hbj hwt hf1;have OS:=h_ hwt;clear hwt a0P;have hLn:(T1++SE++U).length<=450000000006:=by rw[ae,ae];omega
      go_wp2_with (first
       |(go_at_call 54;refine(Hb.wb2 32 _ rfl hbj.out hkj.out (by omega)).mono ?_;rintro e w6 ⟨rfl,hb6,hk6⟩;have jM:=h_ hb6;have HK6:=h_ hk6;clear hb6 hk6)
       |(go_at_call 49;refine(Hb.ws2 word jM.out HK6.out (by rw[ae];simp only[ag,aN];omega)).mono ?_;rintro e w7 ⟨rfl,Ft,hk7⟩;have Uz:=h_ Ft;have HK7:=h_ hk7;clear Ft hk7)
       |fail)
      have h7:Hb w (T1++SE++cy (it.words.take (j+1))) w7:=by
       have h:=Uz.out;rw[OS.out];simp only[aT]at h ⊢;exact h
      have H7:=h_ h7;clear h7;go_roundw
      case rel =>
       first
        |exact⟨j+1,by omega,by simp,H7.out,HK7.out⟩
        |((repeat apply Exists.intro);exact⟨⟨j+1,by omega,by simp,H7.out,HK7.out⟩,rfl⟩)
      case measure=>simp[intOf];omega
     obtain rfl:j=M:=by omega
     have hU:T1++SE++cy (it.words.take j)=fM (l.take (k+1)):=by
      rw[HM.out,dx,a3d.out,HIF.out,aT]
     have HU:=h_ (hU▸hbj.out);clear hU hbj
     go_wp2_with fail
     go_roundw
     case rel =>
      first
       |exact⟨k+1,by omega,by simp,HU.out⟩
       |((repeat apply Exists.intro);exact⟨⟨k+1,by omega,by simp,HU.out⟩,rfl⟩)
     case measure=>simp[intOf];omega
  obtain rfl:k=N:=by omega
  go_wp2_with (first|(go_at_call 52;refine(Hb.str hbd.out).mono ?_;rintro e w2 ⟨rfl,hb2⟩;have HB2:=h_ hb2;clear hb2)|fail)
  go_ret;refine⟨?_,HB2.out⟩;rw[HN.out,dx];rfl

def AT(l:List eG):Bytes:=match l with | []=>[]|i::_=>di i.url true
def iM(k:Int)(l:List eG)(d:Bytes):Bytes:=if k=1 then AT l else if k=2 then fM l else if k=3 then S8 d true (AT l)else []
def ic(k:Int)(l:List eG)(d:Bytes):Bytes:=if l=[]then []else eX (iM k l d)
theorem Qs:eX []=[]:=rfl
theorem v8(kind:Int)(l:List eG)(v:Value)(d:Bytes)(w:World)(h:Items w.heap.size w v l)(hs:∀ i∈l,ke i.url)(hm:(fM l).length<=150000000000)(hn:l.length<=1000000000)(hd:d.length<=100000)(hE:NE w) :
  bN prog 25 #[.int .i64 kind,.agg #[v,S d]] w (S (ic kind l d)):=by
 have hok:=wO h;have hlist:=fun(W:World) (hW:Below w.heap.size w W)=>LQ l v W ((h.below hW).more hW.size) hs hm hn (hE.below hW);have Gz:=fun(x:Bytes) (W:World) (hx:x.length<=200000000000)=>vY x W hx;obtain⟨av,cc,hv⟩:=sR h;subst hv;have XW:=h_ hlist;clear hlist;have Le:=h_ Gz;clear Gz;cases l with
 |nil =>
  go_enter func25,ntmps25
  go_wp2_with fail
  go_ret;exact⟨rfl,(Below.refl _ _).alloc (af _) _⟩
 |cons it r =>
  obtain⟨b,o,rfl,hbb,hat⟩:=wN h 0 (by simp);simp only[jc,Nat.zero_mul,dU]at hat;obtain⟨pv,wv,hrg,a0D,hpv,hwv⟩:=hat;have hsm:=hs it bM;have JK:vo (aV pv it.url).toArray pv it.url:=sj pv a0D;have huc:=de pv it.url a0D;have qO:=fun(W:World) (hW:Below w.heap.size w W)=>BQ it.url _ pv true W JK ((hpv.below hW).more hW.size) hsm (hE.below hW)
  have hsl:(di it.url true).length<=(fM (it::r)).length:=by
   show _<=(dQ it++_).length;unfold dQ;simp only[ae];omega
  have a4W:∀ W,Below w.heap.size w W->W.rangeAt b (o+1) (aV pv it.url):=fun W hW j v hj=>(hW.cell (p:=⟨b,o+1+j,none⟩) hbb).trans (Kc hrg j v hj);have hw:ic kind (it::r) d=eX (iM kind (it::r) d):=rfl;have hbd:iM kind (it::r) d=if kind=1 then di it.url true else if kind=2 then fM (it::r)else if kind=3 then S8 d true (di it.url true)else []:=rfl;obtain⟨N,hN⟩:=az ((it::r).length);have hN0:(0:Int)<N:=by rw[hN,ag];omega
  have hN1:¬ (N:Int)=0:=by omega
  rw[<-hN]at XW ⊢;have a9y:(fM (it::r)).length<=200000000000:=ap hm (by decide)
  have hrl:(S8 d true (di it.url true)).length<=200000000000:=by
   simp only[S8,if_true,ae,ag,aN];omega
  generalize fM (it::r)=LI at *;generalize ic kind (it::r) d=WR at *;generalize iM kind (it::r) d=BO at *;generalize di it.url true=SE at *;have hrf:=fun W=>W6 d SE true W (by omega) (by omega);generalize S8 d true SE=RF at *;have yq:=h_ qO;have Oe:=h_ a4W;have HUC:=h_ huc;have HRF:=h_ hrf;have HW:=h_ hw;have qy:=h_ hbd;clear qO a4W huc hrf hw hbd h hs hn hE hok hrg a0D hpv hwv hsm JK hN;have hbel:∀ o,Below w.heap.size w (w.alloc o):=fun o=>(Below.refl w.heap.size w).alloc (af _) o;have um:=h_ hbel;clear hbel;by_cases k1:kind=1
  ·have hbd:=qy.out
   rw[if_pos k1]at hbd;have hw:=HW.out;rw[hbd]at hw;have HW2:=h_ hw;clear hbd hw;go_enter func25,ntmps25
   go_wp2_with (first
    |(refine wpList_load_mid rfl 30 _ rfl b (o+1) rfl (aV pv it.url) _ (Oe.out _ (um.out _)) underlying30 rfl (by rw[HUC.out];kernel_rfl) ?_)
    |(go_at_call 56;refine(yq.out _ (um.out _)).mono ?_;rintro e w2 ⟨rfl,hb2⟩;have HB2:=h_ ((um.out _).trans (hb2.mono (um.out _).size));clear hb2)
    |(go_at_call 21;refine(Le.out SE _ (by omega)).mono ?_;rintro e w3 ⟨rfl,hb3⟩;have HB3:=h_ (HB2.out.trans (hb3.mono HB2.out.size));clear hb3)
    |fail)
   go_ret;exact⟨by rw[HW2.out];rfl,HB3.out⟩
  by_cases k2:kind=2
  ·have hbd:=qy.out
   rw[if_neg k1,if_pos k2]at hbd;have hw:=HW.out;rw[hbd]at hw;have HW2:=h_ hw;clear hbd hw;go_enter func25,ntmps25
   go_wp2_with (first
    |(go_at_call 58;refine(XW.out _ (um.out _)).mono ?_;rintro e w2 ⟨rfl,hb2⟩;have HB2:=h_ ((um.out _).trans (hb2.mono (um.out _).size));clear hb2)
    |(go_at_call 21;refine(Le.out LI _ a9y).mono ?_;rintro e w3 ⟨rfl,hb3⟩;have HB3:=h_ (HB2.out.trans (hb3.mono HB2.out.size));clear hb3)
    |fail)
   go_ret;exact⟨by rw[HW2.out];rfl,HB3.out⟩
  by_cases k3:kind=3
  ·have hbd:=qy.out
   rw[if_neg k1,if_neg k2,if_pos k3]at hbd;have hw:=HW.out;rw[hbd]at hw;have HW2:=h_ hw
   have hcd:∀ W,Below (w.heap.size+1) (w.alloc (.cells #[.slice (some ⟨b,o,none⟩) N cc,S d] 35)) W->W.cell? ⟨w.heap.size,1,none⟩=some (S d):=fun W hW=>by
    rw[hW.cell (p:=⟨w.heap.size,1,none⟩) (by simp)];rw[World.cell?_alloc_mark];rfl
   have HCD:=h_ hcd;clear hbd hw hcd;go_enter func25,ntmps25
   go_wp2_with (first
    |(refine wpList_load_mid rfl 30 _ rfl b (o+1) rfl (aV pv it.url) _ (Oe.out _ (um.out _)) underlying30 rfl (by rw[HUC.out];kernel_rfl) ?_)
    |(go_at_call 56;refine(yq.out _ (um.out _)).mono ?_;rintro e w2 ⟨rfl,hb2⟩;have c1:=HCD.out _ (hb2.mono (by simp));have HB2:=h_ ((um.out _).trans (hb2.mono (um.out _).size));clear hb2)
    |(go_at_call 59;refine(HRF.out _).mono ?_;rintro e w4 ⟨rfl,hb4⟩;have eM:=h_ (HB2.out.trans (hb4.mono HB2.out.size));clear hb4)
    |(go_at_call 21;refine(Le.out RF _ hrl).mono ?_;rintro e w3 ⟨rfl,hb3⟩;have HB3:=h_ (eM.out.trans (hb3.mono eM.out.size));clear hb3)
    |fail)
   go_ret;exact⟨by rw[HW2.out];rfl,HB3.out⟩
  have hbd:=qy.out;rw[if_neg k1,if_neg k2,if_neg k3]at hbd;have hw:=HW.out;rw[hbd,Qs]at hw;have HW2:=h_ hw;clear hbd hw;go_enter func25,ntmps25
  go_wp2_with fail
  go_ret;exact⟨by rw[HW2.out];rfl,um.out _⟩
theorem vZ(kind:Int)(l:List eG)(v:Value)(d:Bytes)(w:World)(h:Items w.heap.size w v l)(hs:∀ i∈l,Cx i)(hn:l.length<=20)(hd:d.length<=1000)(hE:NE w) :
  bN prog 25 #[.int .i64 kind,.agg #[v,S d]] w (S (ic kind l d)) :=
 v8 kind l v d w h (fun i hi=>(hs i hi).url) (by have:=MR l (wO h) hs;omega) (by omega) (by omega) hE

def h0:ie:=⟨0,[],0,[0,0,0,0,0,0,0,0]⟩
def hA:ie:=⟨2,[97],0,[0,0,0,0,0,0,0,0]⟩
def uA:Url:=⟨[104,116,116,112],[],[],hA,false,0,false,[],[[]],true,[98,38,99],false,[]⟩
def uO(fl:Bytes):Url:=⟨[120],[],[],h0,false,0,true,fl,[],false,[],false,[]⟩
def ZU:Array Value:=#[.string ⟨#[]⟩,.string ⟨#[]⟩,.string ⟨#[]⟩,.int .i64 0,.string ⟨#[]⟩,.int .u32 0,.int .u16 0,.int .u16 0,.int .u16 0,.int .u16 0,.int .u16 0,.int .u16 0,.int .u16 0,.int .u16 0,.bool false,.int .i64 0,.bool false,.string ⟨#[]⟩,.slice none 0 0,.bool false,.string ⟨#[]⟩,.bool false,.string ⟨#[]⟩]
theorem Vg(w:World):(Instr.alloc 30 true (Value.tuple #[])).run prog w=.ok (.pointer (some ⟨w.heap.size,0,none⟩)) (w.alloc (.cells ZU 30)):=by kernel_rfl
theorem a3I(w:World):(Instr.build 27 #[(0,.int .i64 2),(1,.string ⟨#[97]⟩)]).run prog w=.ok (.agg (aZ hA).toArray) w:=by kernel_rfl
theorem a3B(a:Option Addr)(n c:Nat)(w:World):(Instr.build 30 #[(0,.string ⟨#[104,116,116,112]⟩),(3,.agg (aZ hA).toArray),(8,.slice a n c),(9,.bool true),(10,.string ⟨#[98,38,99]⟩)]).run prog w=.ok (.agg (aV (.slice a n c) uA).toArray) w:=by kernel_rfl
theorem a8J(f:Array UInt8)(w:World):(Instr.build 30 #[(0,.string ⟨#[120]⟩),(6,.bool true),(7,.string ⟨f⟩)]).run prog w=.ok (.agg (aV (.slice none 0 0) (uO f.toList)).toArray) w:=by
 cases f
 kernel_rfl
theorem okO(fl:Bytes):gI (uO fl):=⟨⟨by simp[uO,h0],by simp[uO,h0],rfl,by simp[uO,h0]⟩,by simp[uO]⟩
theorem okA:gI uA:=⟨⟨by simp[uA,hA],by simp[uA,hA],rfl,by simp[uA,hA]⟩,by simp[uA]⟩
theorem XA(pv:Value)(u:Url)(hp:pv.oneCell'=true):(aV pv u).toArray.all (·.oneCell')=true:=by
 refine all_oneCell_toArray fun v hv=>?_;simp only[aV,aZ,aj,au,cm,bl,or_false]at hv;rcases hv with(((rfl|rfl|rfl)|(rfl|rfl|rfl|⟨n,_,rfl⟩))|h)
 all_goals first|rfl|assumption|skip
 rcases h with rfl|rfl|rfl|rfl|rfl|rfl|rfl|rfl|rfl
 all_goals first|rfl|assumption
theorem BM{ops:Array Oper}{rest:List Oper}{o:Oper}{a:Act}{w:World}{Q:Exit->Act->World->Prop}(hgd:o.guard=none)(x y:Operand)(ho:o.op=.store 30 x y)(pv:Value)(u:Url)
  (hx:a.eval x=.pointer (some ⟨w.heap.size,0,none⟩)) (hy:a.eval y=.agg (aV pv u).toArray) (ok:gI u) (hp:pv.oneCell'=true)
  (h:wpList prog ops Q rest (a.put o.dst undef) (w.alloc (.cells (aV pv u).toArray 30))):wpList prog ops Q (o::rest) a (w.alloc (.cells ZU 30)):=by
 have hl:=de pv u ok;exact gD hgd 30 x y ho (aV pv u).toArray ZU 30 hx hy (by rw[eJ,hl];kernel_rfl) (by rw[show(aV pv u).toArray.size=23 by rw[eJ,hl]];rfl) (XA pv u hp) h
theorem tQ(w:World)(cs:List Value)(t:TypeId):(w.alloc (.cells cs.toArray t)).rangeAt w.heap.size 0 cs:=fun j v hj=>by
 rw[World.cell?_alloc_mark,bC,bT];exact hj
theorem Hw{w w':World}{b o:Nat}{cs:List Value}(h:w.rangeAt b o cs)(hb:Below w.heap.size w w')(hlt:b<w.heap.size):w'.rangeAt b o cs:=fun j v hj=>(hb.cell (p:=⟨b,o+j,none⟩) hlt).trans (h j v hj)
section
variable {ops:Array Oper} {rest:List Oper} {o:Oper} {a:Act} {w:World} {Q:Exit->Act->World->Prop}
theorem yS(hg:o.guard=none)(t:TypeId)(n:Nat)(parts:Array (Nat×Operand))(ho:o.op=.buildSlice t n parts)(v:Value)(w':World)(xs:Array (Nat×Value))(hx:parts.map (fun(i,x)=>(i,a.eval x))=xs)(hr:(Instr.buildSlice t n xs).run prog w=.ok v w')(h:wpList prog ops Q rest (a.put o.dst v) w'):wpList prog ops Q (o::rest) a w:=by
 refine wpList_plain hg fun K hK=>?_;subst hx;unfold Oper.wp execOp;simp only[ho,Sem.run_bind,Sem.run_pure,Result.andThen_ok,hr];exact hK _ _ h
theorem ZL(hg:o.guard=none)(ho:o.op=.build 27 #[(0,.const (.int .i64 2)),(1,.const (.string ⟨#[97]⟩))])(h:wpList prog ops Q rest (a.put o.dst (.agg (aZ hA).toArray)) w):wpList prog ops Q (o::rest) a w :=
 jw hg 27 _ ho (.agg (aZ hA).toArray) #[(0,.int .i64 2),(1,.string ⟨#[97]⟩)] (by simp[Act.eval]) a3I h
theorem ZO(hg:o.guard=none)(i j:Tmp)(ho:o.op=.build 30 #[(0,.const (.string ⟨#[104,116,116,112]⟩)),(3,.tmp i),(8,.tmp j),(9,.const (.bool true)),(10,.const (.string ⟨#[98,38,99]⟩))])(av:Option Addr)(n c:Nat)
  (hi:a.eval (.tmp i)=.agg (aZ hA).toArray) (hj:a.eval (.tmp j)=.slice av n c) (h:wpList prog ops Q rest (a.put o.dst (.agg (aV (.slice av n c) uA).toArray)) w):wpList prog ops Q (o::rest) a w:=by
 refine jw hg 30 _ ho (.agg (aV (.slice av n c) uA).toArray) #[(0,.string ⟨#[104,116,116,112]⟩),(3,.agg (aZ hA).toArray),(8,.slice av n c),(9,.bool true),(10,.string ⟨#[98,38,99]⟩)] ?_ (a3B av n c) h;rw[<-hi,<-hj];simp[Act.eval]
theorem FO(hg:o.guard=none)(f:Array UInt8)(ho:o.op=.build 30 #[(0,.const (.string ⟨#[120]⟩)),(6,.const (.bool true)),(7,.const (.string ⟨f⟩))])(h:wpList prog ops Q rest (a.put o.dst (.agg (aV (.slice none 0 0) (uO f.toList)).toArray)) w):wpList prog ops Q (o::rest) a w :=
 jw hg 30 _ ho (.agg (aV (.slice none 0 0) (uO f.toList)).toArray) #[(0,.string ⟨#[120]⟩),(6,.bool true),(7,.string ⟨f⟩)] (by simp[Act.eval]) (a8J f) h
end
structure vp (W:World) (b:Nat) (pv:Value) (u:Url):Prop where
 range:W.rangeAt b 0 (aV pv u)
 lt:b<W.heap.size
 ok:gI u
 sl:Sl W.heap.size W pv (u.path.map S)
theorem vp.keep{W W':World}{b:Nat}{pv:Value}{u:Url}(h:vp W b pv u)(hb:Below W.heap.size W W'):vp W' b pv u :=
 ⟨Hw h.range hb h.lt,aQ h.lt hb.size,h.ok,(h.sl.below hb).more hb.size⟩
theorem vp.new(W:World)(pv:Value)(u:Url)(ok:gI u)(sl:Sl W.heap.size W pv (u.path.map S)):vp (W.alloc (.cells (aV pv u).toArray 30)) W.heap.size pv u :=
 ⟨tQ W _ _,by simp,ok,(sl.below ((Below.refl _ _).alloc (af _) _)).more (by simp)⟩
theorem KI(W:World)(s:Bytes):Sl (W.alloc (.cells #[S s] 9)).heap.size (W.alloc (.cells #[S s] 9)) (.slice (some ⟨W.heap.size,0,none⟩) 1 1) ([s].map S):=by
 refine⟨1,by simp,by unfold maxLen;omega,.inr ⟨W.heap.size,0,by simp,rfl,fun j hj=>?_⟩⟩;have h0:j=0:=by simpa using hj
 subst h0;rw[World.cell?_alloc_mark];rfl
theorem eQ(W:World)(o:Obj):Below W.heap.size W (W.alloc o):=(Below.refl _ _).alloc (af _) _
def iA:eG:=⟨false,uA,[[49,120]]⟩
def iB:eG:=⟨false,uO [121],[]⟩
theorem a3J(a:Option Addr)(n c:Nat)(a':Option Addr)(n' c':Nat)(w:World):(Instr.build 41 #[(1,.agg (aV (.slice a n c) uA).toArray),(2,.slice a' n' c')]).run prog w=.ok (.agg (aO (.slice a n c) (.slice a' n' c') iA).toArray) w:=by kernel_rfl
theorem a3K(w:World):(Instr.build 41 #[(1,.agg (aV (.slice none 0 0) (uO [121])).toArray)]).run prog w=.ok (.agg (aO (.slice none 0 0) (.slice none 0 0) iB).toArray) w:=by kernel_rfl
theorem a8K(a:Option Addr)(n c:Nat)(a':Option Addr)(n' c':Nat)(w:World):(Instr.buildSlice 33 2 #[(0,.agg (aO (.slice a n c) (.slice a' n' c') iA).toArray),(1,.agg (aO (.slice none 0 0) (.slice none 0 0) iB).toArray)]).run prog w =
  .ok (.slice (some ⟨w.heap.size,0,none⟩) 2 2) (w.alloc (.cells (aO (.slice a n c) (.slice a' n' c') iA++aO (.slice none 0 0) (.slice none 0 0) iB).toArray 41)):=by kernel_rfl
section
variable {ops:Array Oper} {rest:List Oper} {o:Oper} {a:Act} {w:World} {Q:Exit->Act->World->Prop}
theorem ZM(hg:o.guard=none)(i j:Tmp)(ho:o.op=.build 41 #[(1,.tmp i),(2,.tmp j)])(av:Option Addr)(n c:Nat)(Uk:Option Addr)(n' c':Nat)
  (hi:a.eval (.tmp i)=.agg (aV (.slice av n c) uA).toArray) (hj:a.eval (.tmp j)=.slice Uk n' c') (h:wpList prog ops Q rest (a.put o.dst (.agg (aO (.slice av n c) (.slice Uk n' c') iA).toArray)) w):wpList prog ops Q (o::rest) a w:=by
 refine jw hg 41 _ ho (.agg (aO (.slice av n c) (.slice Uk n' c') iA).toArray) #[(1,.agg (aV (.slice av n c) uA).toArray),(2,.slice Uk n' c')] ?_ (a3J av n c Uk n' c') h;rw[<-hi,<-hj];simp[Act.eval]
theorem ZN(hg:o.guard=none)(i:Tmp)(ho:o.op=.build 41 #[(1,.tmp i)])
  (hi:a.eval (.tmp i)=.agg (aV (.slice none 0 0) (uO [121])).toArray) (h:wpList prog ops Q rest (a.put o.dst (.agg (aO (.slice none 0 0) (.slice none 0 0) iB).toArray)) w):wpList prog ops Q (o::rest) a w:=by
 refine jw hg 41 _ ho (.agg (aO (.slice none 0 0) (.slice none 0 0) iB).toArray) #[(1,.agg (aV (.slice none 0 0) (uO [121])).toArray)] ?_ a3K h;rw[<-hi];simp[Act.eval]
theorem Vq(hg:o.guard=none)(i j:Tmp)(ho:o.op=.buildSlice 33 2 #[(0,.tmp i),(1,.tmp j)])(av:Option Addr)(n c:Nat)(Uk:Option Addr)(n' c':Nat)
  (hi:a.eval (.tmp i)=.agg (aO (.slice av n c) (.slice Uk n' c') iA).toArray) (hj:a.eval (.tmp j)=.agg (aO (.slice none 0 0) (.slice none 0 0) iB).toArray)
  (h:wpList prog ops Q rest (a.put o.dst (.slice (some ⟨w.heap.size,0,none⟩) 2 2)) (w.alloc (.cells (aO (.slice av n c) (.slice Uk n' c') iA++aO (.slice none 0 0) (.slice none 0 0) iB).toArray 41))):wpList prog ops Q (o::rest) a w:=by
 refine yS hg _ _ _ ho _ _ #[(0,.agg (aO (.slice av n c) (.slice Uk n' c') iA).toArray),(1,.agg (aO (.slice none 0 0) (.slice none 0 0) iB).toArray)] ?_ (a8K av n c Uk n' c' w) h;rw[<-hi,<-hj];simp[Act.eval]
end
theorem MF(W:World)(pv wv:Value)(h1:Sl W.heap.size W pv (uA.path.map S))(h2:Sl W.heap.size W wv (iA.words.map S)) :
  Items (W.alloc (.cells (aO pv wv iA++aO (.slice none 0 0) (.slice none 0 0) iB).toArray 41)).heap.size (W.alloc (.cells (aO pv wv iA++aO (.slice none 0 0) (.slice none 0 0) iB).toArray 41)) (.slice (some ⟨W.heap.size,0,none⟩) 2 2) [iA,iB]:=by
 have hl:(aO pv wv iA).length=25:=nt pv wv iA okA;have hr:=tQ W (aO pv wv iA++aO (.slice none 0 0) (.slice none 0 0) iB) 41;refine⟨2,by simp,.inr ⟨W.heap.size,0,by simp,rfl,fun k hk=>?_⟩⟩
 match k,hk with
 |0,_ =>
  refine⟨pv,wv,fun j v hj=>?_,okA,(h1.below (eQ W _)).more (by simp),(h2.below (eQ W _)).more (by simp)⟩;have hj2:(aO pv wv iA)[j]? = some v:=hj;have hjl:=(bf.1 hj2).1;exact hr j v (by rw[cH hjl];exact hj2)
 |1,_ =>
  refine⟨.slice none 0 0,.slice none 0 0,fun j v hj=>?_,okO _,Sl.nil,Sl.nil⟩;have hj2:(aO (.slice none 0 0) (.slice none 0 0) iB)[j]? = some v:=hj;have:=hr (25+j) v (by rw[cu (by omega),hl,show 25+j-25=j by omega];exact hj2);rw[bC]at this;exact this
theorem mh{P:Program}{ops:Array Oper}{rest:List Oper}{op:Oper}{a:Act}{w:World}{Q:Exit->Act->World->Prop}(hw:Region.wanted op (yielded ops a.tmps)=true)(ty:TypeId)(x:Operand)(ho:op.op=.load ty x)
  (b o:Nat) (hx:a.eval x=.pointer (some ⟨b,o,none⟩)) (cs:List Value) (d:TypeDesc) (hc:w.rangeAt b o cs)
  (hu:P.underlying ty=some d) (hd:d.isRow=true) (hi:(P.info? ty).map (·.size)=some cs.length)
  (h:wpList P ops Q rest (a.put op.dst (.agg cs.toArray)) w):wpList P ops Q (op::rest) a w:=by
 unfold wpList;rw[if_pos hw];exact .inl (wp_load_mid ty x ho b o hx cs d hc hu hd hi h)
theorem smA:ke uA:=⟨by simp[uA],by simp[uA],by simp[uA],by simp[uA,hA],by simp[uA],by simp[uA,bF],by simp[uA],by simp[uA]⟩
theorem smO(fl:Bytes)(h:fl.length<=10):ke (uO fl):=⟨by simp[uO],by simp[uO],by simp[uO],by simp[uO,h0],by simp[uO];omega,by simp[uO,bF],by simp[uO],by simp[uO]⟩
theorem smI:∀ i ∈ [iA,iB],Cx i:=by
 intro i hi;simp only[aj,bl,or_false]at hi;rcases hi with rfl|rfl
 ·exact⟨smA,by simp[iA],by simp[iA]⟩
 exact⟨smO _ (by simp),by simp[iB],by simp[iB]⟩
theorem fA:lR (di uA true)=true:=by decide +kernel
theorem fC:lR (di (uO [121,44]) true)=false:=by decide +kernel
theorem fD:lR (di (uO [121,32,122]) true)=false:=by decide +kernel
theorem w2:ic 2 [iA,iB] [53]=[104,116,116,112,58,47,47,97,47,63,98,38,97,109,112,59,99,32,49,120,44,32,120,58,121]:=by decide +kernel
theorem w1:ic 1 [iA,iB] [53]=[104,116,116,112,58,47,47,97,47,63,98,38,97,109,112,59,99]:=by decide +kernel
theorem w3:ic 3 [iA,iB] [53]=[53,59,32,117,114,108,61,104,116,116,112,58,47,47,97,47,63,98,38,97,109,112,59,99]:=by decide +kernel
theorem w0:ic 0 [iA,iB] [53]=[]:=by decide +kernel
theorem BI(u:Url)(b:Bool)(hb:lR (di u true)=b)(sm:ke u){pv:Value}{W:World}{a:Nat}(h:vp W a pv u)(hE:NE W) :
  bN prog 24 #[.agg (aV pv u).toArray] W (.bool b):=by
 subst hb;exact DA u _ pv W (sj pv h.ok) h.sl sm hE
theorem r9(k:Int)(x:Bytes)(hx:ic k [iA,iB] [53]=x){v:Value}{W:World}(h:Items W.heap.size W v [iA,iB])(hE:NE W)(d:ByteArray)(hd:d=bs [53])(y:ByteArray)(hy:y=bs x) :
  bN prog 25 #[.int .i64 k,.agg #[v,.string d]] W (.string y):=by
 subst hx;subst hd;subst hy;exact vZ k [iA,iB] v [53] W h smI (by simp) (by simp) hE
theorem Xi(k:Int){W:World}(hE:NE W) :
  bN prog 25 #[.int .i64 k,.agg #[.slice none 0 0,.string ⟨#[]⟩]] W (.string ⟨#[]⟩) :=
 vZ k [] (.slice none 0 0) [] W ⟨0,by simp,.inl ⟨rfl,_,rfl⟩⟩ (by simp) (by simp) (by simp) hE
theorem ES(w:World)(hE:NE w):bN prog 23 #[] w (.bool true):=by
 have HE:=h_ hE;clear hE;go_enter func23,ntmps23
 go_upto_region 2 with(first
  |(refine ZL rfl rfl ?_)
  |(refine ZO rfl 6 7 rfl _ _ _ rfl rfl ?_)
  |(refine aS rfl 30 rfl _ _ (Vg _) ?_)
  |(refine BM rfl (.tmp 1) (.tmp 8) rfl _ uA rfl rfl okA rfl ?_)
  |fail)
 have uP:vp ((w.alloc (.cells #[.string ⟨#[]⟩] 9)).alloc (.cells (aV (.slice (some ⟨w.heap.size,0,none⟩) 1 1) uA).toArray 30)) (w.alloc (.cells #[.string ⟨#[]⟩] 9)).heap.size (.slice (some ⟨w.heap.size,0,none⟩) 1 1) uA:=vp.new _ _ uA okA (KI w []);have bP:Below w.heap.size w ((w.alloc (.cells #[.string ⟨#[]⟩] 9)).alloc (.cells (aV (.slice (some ⟨w.heap.size,0,none⟩) 1 1) uA).toArray 30)):=(eQ w _).trans ((eQ _ _).mono (by simp));generalize w.alloc (.cells #[.string ⟨#[]⟩] 9)=wP at uP bP ⊢;generalize wP.alloc (.cells (aV (.slice (some ⟨w.heap.size,0,none⟩) 1 1) uA).toArray 30)=wA at uP bP ⊢;generalize wP.heap.size=aA at uP ⊢;have X8:=h_ uP;have X7:=h_ bP;clear uP bP
 try simp only[Act.put,cE,cF,cG]
 go_upto_region 3 with(first
  |(refine FO rfl #[121] rfl ?_)
  |(refine aS rfl 30 rfl _ _ (Vg _) ?_)
  |(refine BM rfl (.tmp 2) (.tmp 9) rfl _ (uO [121]) rfl rfl (okO _) rfl ?_)
  |fail)
 have uP:=X8.out;have bP:=X7.out;clear X8 X7;have uB:=vp.new wA (.slice none 0 0) (uO [121]) (okO _) Sl.nil;replace uP:=uP.keep (eQ wA (.cells (aV (.slice none 0 0) (uO [121])).toArray 30));replace bP:=bP.trans ((eQ wA (.cells (aV (.slice none 0 0) (uO [121])).toArray 30)).mono bP.size);generalize wA.alloc (.cells (aV (.slice none 0 0) (uO [121])).toArray 30)=wB at uP uB bP ⊢;generalize wA.heap.size=aB at uB ⊢;have X8:=h_ uP;have HuB:=h_ uB;have X7:=h_ bP;clear uP uB bP
 try simp only[Act.put,cE,cF,cG]
 go_upto_region 4 with(first
  |(refine FO rfl #[121,44] rfl ?_)
  |(refine aS rfl 30 rfl _ _ (Vg _) ?_)
  |(refine BM rfl (.tmp 3) (.tmp 10) rfl _ (uO [121,44]) rfl rfl (okO _) rfl ?_)
  |fail)
 have uP:=X8.out;have uB:=HuB.out;have bP:=X7.out;clear X8 HuB X7;have uC:=vp.new wB (.slice none 0 0) (uO [121,44]) (okO _) Sl.nil;replace uP:=uP.keep (eQ wB (.cells (aV (.slice none 0 0) (uO [121,44])).toArray 30));replace uB:=uB.keep (eQ wB (.cells (aV (.slice none 0 0) (uO [121,44])).toArray 30));replace bP:=bP.trans ((eQ wB (.cells (aV (.slice none 0 0) (uO [121,44])).toArray 30)).mono bP.size);generalize wB.alloc (.cells (aV (.slice none 0 0) (uO [121,44])).toArray 30)=wC at uP uB uC bP ⊢;generalize wB.heap.size=aC at uC ⊢;have X8:=h_ uP;have HuB:=h_ uB;have HuC:=h_ uC;have X7:=h_ bP;clear uP uB uC bP
 try simp only[Act.put,cE,cF,cG]
 go_upto_region 5 with(first
  |(refine FO rfl #[121,32,122] rfl ?_)
  |(refine aS rfl 30 rfl _ _ (Vg _) ?_)
  |(refine BM rfl (.tmp 4) (.tmp 11) rfl _ (uO [121,32,122]) rfl rfl (okO _) rfl ?_)
  |fail)
 have uP:=X8.out;have uB:=HuB.out;have uC:=HuC.out;have bP:=X7.out;clear X8 HuB HuC X7;have uD:=vp.new wC (.slice none 0 0) (uO [121,32,122]) (okO _) Sl.nil;replace uP:=uP.keep (eQ wC (.cells (aV (.slice none 0 0) (uO [121,32,122])).toArray 30));replace uB:=uB.keep (eQ wC (.cells (aV (.slice none 0 0) (uO [121,32,122])).toArray 30));replace uC:=uC.keep (eQ wC (.cells (aV (.slice none 0 0) (uO [121,32,122])).toArray 30));replace bP:=bP.trans ((eQ wC (.cells (aV (.slice none 0 0) (uO [121,32,122])).toArray 30)).mono bP.size);generalize wC.alloc (.cells (aV (.slice none 0 0) (uO [121,32,122])).toArray 30)=wD at uP uB uC uD bP ⊢;generalize wC.heap.size=aD at uD ⊢;have UA:=h_ uP;have UB:=h_ uB;have UC:=h_ uC;have UD:=h_ uD;have BP:=h_ bP;clear uP uB uC uD bP
 try simp only[Act.put,cE,cF,cG]
 have hit:Items ((wD.alloc (.cells #[.string ⟨#[49,120]⟩] 9)).alloc (.cells (aO (.slice (some ⟨w.heap.size,0,none⟩) 1 1) (.slice (some ⟨wD.heap.size,0,none⟩) 1 1) iA++aO (.slice none 0 0) (.slice none 0 0) iB).toArray 41)).heap.size ((wD.alloc (.cells #[.string ⟨#[49,120]⟩] 9)).alloc (.cells (aO (.slice (some ⟨w.heap.size,0,none⟩) 1 1) (.slice (some ⟨wD.heap.size,0,none⟩) 1 1) iA++aO (.slice none 0 0) (.slice none 0 0) iB).toArray 41)) (.slice (some ⟨(wD.alloc (.cells #[.string ⟨#[49,120]⟩] 9)).heap.size,0,none⟩) 2 2) [iA,iB]:=MF (wD.alloc (.cells #[.string ⟨#[49,120]⟩] 9)) _ _ ((UA.out.sl.below (eQ wD _)).more (by simp)) (KI wD [49,120]);have hbI:Below wD.heap.size wD ((wD.alloc (.cells #[.string ⟨#[49,120]⟩] 9)).alloc (.cells (aO (.slice (some ⟨w.heap.size,0,none⟩) 1 1) (.slice (some ⟨wD.heap.size,0,none⟩) 1 1) iA++aO (.slice none 0 0) (.slice none 0 0) iB).toArray 41)):=(eQ wD _).trans ((eQ (wD.alloc (.cells #[.string ⟨#[49,120]⟩] 9)) _).mono (by simp));have OI:=h_ hit;clear hit;have vk:=h_ hbI;clear hbI
 go_upto_region 6 with(first
  |(refine wpList_load_mid rfl 30 (.tmp 1) rfl aA 0 rfl (aV (.slice (some ⟨w.heap.size,0,none⟩) 1 1) uA) _ UA.out.range underlying30 rfl (by rw[de _ _ UA.out.ok];kernel_rfl) ?_)
  |(refine wpList_load_mid rfl 30 (.tmp 2) rfl aB 0 rfl (aV (.slice none 0 0) (uO [121])) _ (UB.out.keep (eQ wD (.cells #[.string ⟨#[49,120]⟩] 9))).range underlying30 rfl (by rw[de _ _ UB.out.ok];kernel_rfl) ?_)
  |(refine ZM rfl 12 13 rfl _ _ _ _ _ _ rfl rfl ?_)
  |(refine ZN rfl 15 rfl rfl ?_)
  |(refine Vq rfl 14 16 rfl _ _ _ _ _ _ rfl rfl ?_)
  |fail)
 have hb:Below wD.heap.size wD (((wD.alloc (.cells #[.string ⟨#[49,120]⟩] 9)).alloc (.cells (aO (.slice (some ⟨w.heap.size,0,none⟩) 1 1) (.slice (some ⟨wD.heap.size,0,none⟩) 1 1) iA++aO (.slice none 0 0) (.slice none 0 0) iB).toArray 41)).alloc (.cells #[.slice (some ⟨wD.heap.size+1,0,none⟩) 2 2,.string ⟨#[53]⟩] 35)):=vk.out.trans ((eQ ((wD.alloc (.cells #[.string ⟨#[49,120]⟩] 9)).alloc (.cells (aO (.slice (some ⟨w.heap.size,0,none⟩) 1 1) (.slice (some ⟨wD.heap.size,0,none⟩) 1 1) iA++aO (.slice none 0 0) (.slice none 0 0) iB).toArray 41)) (.cells #[.slice (some ⟨wD.heap.size+1,0,none⟩) 2 2,.string ⟨#[53]⟩] 35)).mono vk.out.size)
 have hI:Items (((wD.alloc (.cells #[.string ⟨#[49,120]⟩] 9)).alloc (.cells (aO (.slice (some ⟨w.heap.size,0,none⟩) 1 1) (.slice (some ⟨wD.heap.size,0,none⟩) 1 1) iA++aO (.slice none 0 0) (.slice none 0 0) iB).toArray 41)).alloc (.cells #[.slice (some ⟨wD.heap.size+1,0,none⟩) 2 2,.string ⟨#[53]⟩] 35)).heap.size (((wD.alloc (.cells #[.string ⟨#[49,120]⟩] 9)).alloc (.cells (aO (.slice (some ⟨w.heap.size,0,none⟩) 1 1) (.slice (some ⟨wD.heap.size,0,none⟩) 1 1) iA++aO (.slice none 0 0) (.slice none 0 0) iB).toArray 41)).alloc (.cells #[.slice (some ⟨wD.heap.size+1,0,none⟩) 2 2,.string ⟨#[53]⟩] 35)) (.slice (some ⟨wD.heap.size+1,0,none⟩) 2 2) [iA,iB]:=by
  have:=OI.out;rw[show(wD.alloc (.cells #[.string ⟨#[49,120]⟩] 9)).heap.size=wD.heap.size+1 by simp]at this;exact(this.below (eQ ((wD.alloc (.cells #[.string ⟨#[49,120]⟩] 9)).alloc (.cells (aO (.slice (some ⟨w.heap.size,0,none⟩) 1 1) (.slice (some ⟨wD.heap.size,0,none⟩) 1 1) iA++aO (.slice none 0 0) (.slice none 0 0) iB).toArray 41)) (.cells #[.slice (some ⟨wD.heap.size+1,0,none⟩) 2 2,.string ⟨#[53]⟩] 35))).more (by simp)
 have hc:∀ W,Below (((wD.alloc (.cells #[.string ⟨#[49,120]⟩] 9)).alloc (.cells (aO (.slice (some ⟨w.heap.size,0,none⟩) 1 1) (.slice (some ⟨wD.heap.size,0,none⟩) 1 1) iA++aO (.slice none 0 0) (.slice none 0 0) iB).toArray 41)).alloc (.cells #[.slice (some ⟨wD.heap.size+1,0,none⟩) 2 2,.string ⟨#[53]⟩] 35)).heap.size (((wD.alloc (.cells #[.string ⟨#[49,120]⟩] 9)).alloc (.cells (aO (.slice (some ⟨w.heap.size,0,none⟩) 1 1) (.slice (some ⟨wD.heap.size,0,none⟩) 1 1) iA++aO (.slice none 0 0) (.slice none 0 0) iB).toArray 41)).alloc (.cells #[.slice (some ⟨wD.heap.size+1,0,none⟩) 2 2,.string ⟨#[53]⟩] 35)) W->W.cell? ⟨wD.heap.size+1+1,0,none⟩=some (.slice (some ⟨wD.heap.size+1,0,none⟩) 2 2)∧W.cell? ⟨wD.heap.size+1+1,1,none⟩=some (.string ⟨#[53]⟩):=fun W hW=>by
  have e:((wD.alloc (.cells #[.string ⟨#[49,120]⟩] 9)).alloc (.cells (aO (.slice (some ⟨w.heap.size,0,none⟩) 1 1) (.slice (some ⟨wD.heap.size,0,none⟩) 1 1) iA++aO (.slice none 0 0) (.slice none 0 0) iB).toArray 41)).heap.size=wD.heap.size+1+1:=by simp
  rw[hW.cell (p:=⟨wD.heap.size+1+1,0,none⟩) (by simp),hW.cell (p:=⟨wD.heap.size+1+1,1,none⟩) (by simp),<-e,World.cell?_alloc_mark,World.cell?_alloc_mark];exact⟨rfl,rfl⟩
 generalize ((wD.alloc (.cells #[.string ⟨#[49,120]⟩] 9)).alloc (.cells (aO (.slice (some ⟨w.heap.size,0,none⟩) 1 1) (.slice (some ⟨wD.heap.size,0,none⟩) 1 1) iA++aO (.slice none 0 0) (.slice none 0 0) iB).toArray 41)).alloc (.cells #[.slice (some ⟨wD.heap.size+1,0,none⟩) 2 2,.string ⟨#[53]⟩] 35)=wR at hb hI hc ⊢;generalize wD.heap.size+1+1=rr at hc ⊢;generalize wD.heap.size+1=ii at hc hI ⊢;have VA:=h_ (UA.out.keep hb);have VC:=h_ (UC.out.keep hb);have VD:=h_ (UD.out.keep hb);have BR:=h_ (BP.out.trans (hb.mono BP.out.size));have HI:=h_ hI;have HCC:=h_ hc;clear hb hI hc UA UB UC UD OI vk;have XQ:=h_ (HE.out.below BR.out);obtain⟨pvA,a0E⟩:=az (Value.slice (some ⟨w.heap.size,0,none⟩) 1 1);rw[<-a0E]at VA ⊢;have HPV:=h_ a0E;clear a0E;have HB0:=h_ (Below.refl wR.heap.size wR)
 go_wp2_with (first
  |(refine wpList_load_mid rfl 30 (.tmp 1) rfl aA 0 rfl (aV pvA uA) _ (VA.out.keep HB0.out).range underlying30 rfl (by rw[de _ _ VA.out.ok];kernel_rfl) ?_)
  |(refine mh (by rfl) 30 (.tmp 1) rfl aA 0 rfl (aV pvA uA) _ (VA.out.keep HB0.out).range underlying30 rfl (by rw[de _ _ VA.out.ok];kernel_rfl) ?_)
  |fail)
 refine(BI uA true fA smA (VA.out.keep HB0.out) (XQ.out.below HB0.out)).mono ?_;rintro e x1 ⟨rfl,hb⟩;have HB1:=h_ (HB0.out.trans (hb.mono HB0.out.size));clear hb
 go_wp2_with (first
  |(refine wpList_load_mid rfl 30 (.tmp 3) rfl aC 0 rfl (aV (.slice none 0 0) (uO [121,44])) _ (VC.out.keep HB1.out).range underlying30 rfl (by rw[de _ _ VC.out.ok];kernel_rfl) ?_)
  |(refine mh (by rfl) 30 (.tmp 3) rfl aC 0 rfl (aV (.slice none 0 0) (uO [121,44])) _ (VC.out.keep HB1.out).range underlying30 rfl (by rw[de _ _ VC.out.ok];kernel_rfl) ?_)
  |fail)
 refine(BI (uO [121,44]) false fC (smO _ (by simp)) (VC.out.keep HB1.out) (XQ.out.below HB1.out)).mono ?_;rintro e x2 ⟨rfl,hb⟩;have HB2:=h_ (HB1.out.trans (hb.mono HB1.out.size));clear hb
 go_wp2_with (first
  |(refine wpList_load_mid rfl 30 (.tmp 4) rfl aD 0 rfl (aV (.slice none 0 0) (uO [121,32,122])) _ (VD.out.keep HB2.out).range underlying30 rfl (by rw[de _ _ VD.out.ok];kernel_rfl) ?_)
  |(refine mh (by rfl) 30 (.tmp 4) rfl aD 0 rfl (aV (.slice none 0 0) (uO [121,32,122])) _ (VD.out.keep HB2.out).range underlying30 rfl (by rw[de _ _ VD.out.ok];kernel_rfl) ?_)
  |fail)
 refine(BI (uO [121,32,122]) false fD (smO _ (by simp)) (VD.out.keep HB2.out) (XQ.out.below HB2.out)).mono ?_;rintro e x3 ⟨rfl,hb⟩;have HB3:=h_ (HB2.out.trans (hb.mono HB2.out.size));clear hb;obtain⟨c0,c1⟩:=HCC.out _ HB3.out
 go_wp2_with fail
 clear c0 c1;refine(r9 2 _ w2 ((HI.out.below HB3.out).more HB3.out.size) (XQ.out.below HB3.out) _ rfl ⟨#[104,116,116,112,58,47,47,97,47,63,98,38,97,109,112,59,99,32,49,120,44,32,120,58,121]⟩ rfl).mono ?_;rintro e x4 ⟨rfl,hb⟩;have eM:=h_ (HB3.out.trans (hb.mono HB3.out.size));clear hb;obtain⟨c0,c1⟩:=HCC.out _ eM.out
 go_wp2_with fail
 clear c0 c1;refine(r9 1 _ w1 ((HI.out.below eM.out).more eM.out.size) (XQ.out.below eM.out) _ rfl ⟨#[104,116,116,112,58,47,47,97,47,63,98,38,97,109,112,59,99]⟩ rfl).mono ?_;rintro e x5 ⟨rfl,hb⟩;have gH:=h_ (eM.out.trans (hb.mono eM.out.size));clear hb;obtain⟨c0,c1⟩:=HCC.out _ gH.out
 go_wp2_with fail
 clear c0 c1;refine(r9 3 _ w3 ((HI.out.below gH.out).more gH.out.size) (XQ.out.below gH.out) _ rfl ⟨#[53,59,32,117,114,108,61,104,116,116,112,58,47,47,97,47,63,98,38,97,109,112,59,99]⟩ rfl).mono ?_;rintro e x6 ⟨rfl,hb⟩;have jM:=h_ (gH.out.trans (hb.mono gH.out.size));clear hb;obtain⟨c0,c1⟩:=HCC.out _ jM.out
 go_wp2_with fail
 clear c0 c1;refine(r9 0 _ w0 ((HI.out.below jM.out).more jM.out.size) (XQ.out.below jM.out) _ rfl ⟨#[]⟩ rfl).mono ?_;rintro e x7 ⟨rfl,hb⟩;have Uz:=h_ (jM.out.trans (hb.mono jM.out.size));clear hb
 go_wp2_with fail
 refine(Xi 1 (XQ.out.below Uz.out)).mono ?_;rintro e x8 ⟨rfl,hb⟩;have HB8:=h_ (Uz.out.trans (hb.mono Uz.out.size));clear hb
 go_wp2_with fail
 go_ret;exact⟨dX (by simp),BR.out.trans (HB8.out.mono BR.out.size)⟩
end Go.Proofs.YtmndlfglgcioeaaGreatDoor
