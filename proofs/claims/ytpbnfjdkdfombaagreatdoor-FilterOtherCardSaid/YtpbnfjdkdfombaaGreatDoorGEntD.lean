/- Joined texts. -/
import Derived.Test.YtpbnfjdkdfombaaGreatDoorGHlwA
set_option maxHeartbeats 40000000
namespace Go.Proofs.YtpbnfjdkdfombaaGreatDoor
open Tryz
open Go.RowKit
set_option maxRecDepth 10000
theorem Zq(c:Int):E (enc c)=Utf8.encode c:=by unfold enc;rw[kt]
theorem Ok:∀ p∈nd,p.2<128:=P8
theorem Oj(s:O):nN s<128:=by
 unfold nN;cases h:look nd s with
 |none=>exact(by decide:0<128)
 |some c=>exact Ok _ (lO h)
theorem Fw(s:O)(w:H):bF prog 148 #[.string (E s)] w (.tuple #[S ((iX s).getD []),.bool (iX s).isSome]):=by
 have hlt:=Oj s;have hbb:=λW=>Kq s W;obtain⟨c,hc⟩:=V (nN s);rw[<-hc]at hbb hlt;obtain⟨b,U⟩:=V (E s);have E':=F (show b.toList=s by rw[U,aB]);rw[<-U]at hbb ⊢;clear U;by_cases h0:c=0
 ·subst h0
  have kM:=F (show ∀W,bF prog 183 #[.string b] W (.int .u8 0)from hbb);have HC:=F hc.symm;clear hbb hlt hc;go_enter func148,ntmps148
  go_wp2_with (first
   |(go_at_call 183;refine(kM.o _).m ?_;rintro e w1 ⟨rfl,hb1⟩;have HB1:=F hb1;clear hb1))
  all_goals
   have hbf:iX s=look rU s:=by unfold iX;rw[if_neg (by rw[HC.o];exact λh=>h rfl)]
   simp only[E'.o,beq_iff_eq,beq_eq_false_iff_ne,ne_eq]at *
   go_ret2
   refine⟨?_,HB1.o⟩
   first
    |(refine rk ?_;simp_all[rU,look];done)
    |(refine wC ?_;simp_all[rU,look];done)
 have kM:=F hbb;have hbf:=F (show iX s=some (enc (c:Int)) by unfold iX;rw[<-hc,if_pos h0]);have hw:IntKind.i32.wrap (c:Int)=(c:Int):=by have:=IntWalk.i32_in (c:Int) M0;exact this
 have Y:¬ (c:Int)=0:=M0;have I:((c:Int)==0)=false:=by simp;omega
 clear hbb hc h0;go_enter func148,ntmps148
 go_wp2_with (first
  |(go_at_call 183;refine(kM.o _).m ?_;rintro e w1 ⟨rfl,hb1⟩;have HB1:=F hb1;clear hb1))
 go_ret2
 refine⟨?_,HB1.o⟩;rw[<-Zq];exact rk hbf.o
theorem DI(s:O):Lib.hasSuffix s [59]=decide (s.getLast? = some 59):=by
 cases hu:s.reverse with
 |nil =>
  have:s=[]:=by simpa using hu
  subst this;decide
 |cons x r =>
  have:s=r.reverse++[x]:=by
   have:=congrArg List.reverse hu
   simpa using this
  rw[this,Bi];unfold Lib.hasSuffix List.isSuffixOf;rw[jK,b2R];show((59==x)&&true)=_;rw[nk];by_cases h:x=59
  ·subst h;rfl
  rw[decide_eq_false (by simpa using h)];simp only[beq_eq_false_iff_ne];exact λe=>h e.symm
theorem RX(s:O):Lib.trimSuffix s [59]=jm s:=by
 unfold Lib.trimSuffix jm;rw[DI];by_cases h:s.getLast? = some 59
 ·rw[decide_eq_true h,if_pos rfl,if_pos h,iN];rfl
 rw[decide_eq_false h,if_neg P8,if_neg h]
theorem RW(s:O)(w:H)(h:s.length<=1024000000):bP prog 104 #[.string (E s),.string ⟨#[59]⟩] w (.tuple #[S (jm s),.bool (decide (s.getLast? = some 59))]):=by
 have:=zU s [59] w h;rw[DI,RX]at this;exact this
theorem Fx(s:O)(w:H)(h:s.length<=1024000000):bF prog 113 #[.string (E s)] w (.tuple #[S ((fT s).getD []),.bool (fT s).isSome]):=by
 have hcs:=λW=>RW s W h;obtain⟨b,U⟩:=V (E s);obtain⟨c,hc⟩:=V (jm s);obtain⟨cb,hcb⟩:=V (E c);have hfr:=λW=>Po c W;have hbd:=λW=>Fw c W;have hS:S c=.string cb:=by rw[hcb]
 rw[<-U,<-hc,hS]at hcs;rw[<-hcb]at hfr hbd;rw[<-U];cases hf:yv c with
 |some t =>
  obtain⟨tb,htb⟩:=V (E t);have HN:=F (show fT s=some t by unfold fT;rw[<-hc,hf]);have HT:=F htb;have WX:=F (show ∀W,bP prog 147 #[.string cb] W (.tuple #[.string tb,.bool true])from λW=>by have:=hfr W;rw[hf]at this;rw[htb];exact this);have xL:=F hcs;clear hcs U hc hcb hfr hbd hS hf htb;go_enter func113,ntmps113
  go_wp2_with (first
   |(go_at_call 104;refine(xL.o _).m ?_;rintro e w1 ⟨rfl,hw⟩;subst w1)
   |(go_at_call 147;refine(WX.o _).m ?_;rintro e w2 ⟨rfl,hw⟩;subst w2))
  go_ret2
  refine⟨?_,Below.refl _ _⟩;rw[HT.o];exact rk HN.o
 |none =>
  have WX:=F (show ∀W,bP prog 147 #[.string cb] W (.tuple #[.string ⟨#[]⟩,.bool false])from λW=>by have:=hfr W;rw[hf]at this;exact this);by_cases hl:s.getLast? = some 59
  ·have HN:=F (show fT s=iX c by unfold fT;rw[<-hc,hf];show(if s.getLast? = some 59 then iX c else none)=_;rw[if_pos hl])
   rw[decide_eq_true hl]at hcs;obtain⟨o,ho⟩:=V (iX c);obtain⟨ob,Vc⟩:=V (E (o.getD []));obtain⟨oq,hoq⟩:=V (o.isSome);have pN:=F (show ∀W,bF prog 148 #[.string cb] W (.tuple #[.string ob,.bool oq])from λW=>by rw[Vc,hoq,ho];exact hbd W);have HO:=F (show ob=E ((fT s).getD [])/\oq=(fT s).isSome by rw[HN.o,<-ho];exact⟨Vc,hoq⟩);have xL:=F hcs;clear hcs U hc hcb hfr hbd hS hf hl ho Vc hoq;go_enter func113,ntmps113
   go_wp2_with (first
    |(go_at_call 104;refine(xL.o _).m ?_;rintro e w1 ⟨rfl,hw⟩;subst w1)
    |(go_at_call 147;refine(WX.o _).m ?_;rintro e w2 ⟨rfl,hw⟩;subst w2)
    |(go_at_call 148;refine(pN.o _).m ?_;rintro e w3 ⟨rfl,U⟩;have HB3:=F U;clear U))
   go_ret2
   refine⟨?_,HB3.o⟩;rw[HO.o.1,HO.o.2];rfl
  have HN:=F (show fT s=none by unfold fT;rw[<-hc,hf];show(if s.getLast? = some 59 then iX c else none)=_;rw[if_neg hl]);rw[decide_eq_false hl]at hcs;have xL:=F hcs;clear hcs U hc hcb hfr hbd hS hf hl;go_enter func113,ntmps113
  go_wp2_with (first
   |(go_at_call 104;refine(xL.o _).m ?_;rintro e w1 ⟨rfl,hw⟩;subst w1)
   |(go_at_call 147;refine(WX.o _).m ?_;rintro e w2 ⟨rfl,hw⟩;subst w2))
  go_ret2
  refine⟨?_,Below.refl _ _⟩;exact wC HN.o
theorem Cn(n:Int)(w:H):bF prog 146 #[.int .i64 n] w (S (iH n)):=by
 have ma:=F<|λ(c:Int) W=>fK c W;have HSH:=F<|λW=>Mp n W;by_cases h:n=0
 ·subst h
  clear HSH;go_enter func146,ntmps146
  go_wp2_with (first
   |(go_at_call 57;refine(ma.o _ _).m ?_;rintro e w1 ⟨rfl,hw⟩;subst hw))
  go_ret;exact⟨rfl,Below.refl _ _⟩
 have hs:iH n=enc (tL n):=by unfold iH;rw[if_neg h]
 rw[hs];obtain⟨m,hm⟩:=V (tL n);rw[<-hm]at HSH ⊢;clear hs hm;have U:(n==0)=false:=by simpa using h
 go_enter func146,ntmps146
 go_wp2_with (first
  |(go_at_call 182;refine(HSH.o _).m ?_;rintro e w1 ⟨rfl,hb1⟩;have HB1:=F hb1;clear hb1)
  |(go_at_call 57;refine(ma.o _ _).m ?_;rintro e w2 ⟨rfl,hw⟩;subst w2))
 go_ret;exact⟨rfl,HB1.o⟩

theorem uu{c:Int}:(48<=c/\c<=57->fg c 10=c-48)/\(¬(48<=c/\c<=57)->fg c 10=-1):=by
 constructor
 ·intro h
  simp only[fg,if_pos h];rw[if_neg M0]
 intro h;simp only[fg,if_neg h]
 split
 ·rw[if_pos M0]
 split
 ·rw[if_pos M0]
 rw[if_neg M0]
theorem Fo(c base:Int)(U:1<=base):-1<=fg c base/\fg c base<base:=by
 simp only[fg]
 split
 ·split <;>omega
 split
 ·split <;>omega
 split
 ·split <;>omega
 split <;>omega
theorem Pu(x:UInt8)(w:H):bP prog 114 #[.int .u8 (G x)] w (.bool (yz x)):=by
 have hr:=gH x;have hg:yz x=(iQ (G x)||decide (48<=G x/\G x<=57)||decide (x=61)):=rfl
 have h61:decide (x=61)=decide (G x=61):=by
  rw[decide_eq_decide];constructor
  ·intro h;rw[h];rfl
  intro h;have:x.toNat=61:=by unfold G at h;omega
  exact eZ.mp this
 rw[h61]at hg;rw[hg];clear h61 hg;obtain⟨c,hc⟩:=V (G x);rw[<-hc]at hr ⊢;clear hc;have hle:=λW=>kD c W;have hdi:=λW=>dm c 10 W ⟨M0,M0⟩ P8;cases hq:iQ c with
 |true =>
  rw[hq]at hle;have iS:=F hle;clear hle hdi hq;go_enter func114,ntmps114
  go_wp2_with (first|(go_at_call 115;refine(iS.o _).m ?_;rintro e w2 ⟨rfl,hw⟩;subst w2))
  go_ret;exact⟨Oc,rfl⟩
 |false =>
  rw[hq]at hle;by_cases hd:48<=c/\c<=57
  ·rw[(uu (c:=c)).1 hd]at hdi
   obtain⟨d,hdd⟩:=V (c-48);rw[<-hdd]at hdi;have hd0:0<=d:=M0;have HR:=F (show(false||decide (48<=c/\c<=57)||decide (c=61))=true by rw[decide_eq_true hd];rfl);have iS:=F hle;have ln:=F hdi;clear hle hdi hq hd hdd;go_enter func114,ntmps114
   go_wp2_with (first
    |(go_at_call 115;refine(iS.o _).m ?_;rintro e w2 ⟨rfl,hw⟩;subst w2)
    |(go_at_call 90;refine(ln.o _).m ?_;rintro e w3 ⟨rfl,hw⟩;subst hw))
   go_ret;exact⟨by rw[HR.o];rfl,rfl⟩
  rw[(uu (c:=c)).2 hd]at hdi;have HR:=F (show(false||decide (48<=c/\c<=57)||decide (c=61))=(c==61) by rw[decide_eq_false hd];by_cases h:c=61 <;>simp[h]);have iS:=F hle;have ln:=F hdi;clear hle hdi hq hd;go_enter func114,ntmps114
  go_wp2_with (first
   |(go_at_call 115;refine(iS.o _).m ?_;rintro e w2 ⟨rfl,hw⟩;subst w2)
   |(go_at_call 90;refine(ln.o _).m ?_;rintro e w3 ⟨rfl,hw⟩;subst hw))
  all_goals
   go_ret;exact⟨by rw[HR.o];simp_all,rfl⟩
theorem mM{s:O}{B n:Int}{f j:Nat}(hf:f<=j)(h:mB B 0 (s.drop f)=(n,j-f)):Er s B f=if j=f then([38],1)else(iH n,j+(if s[j]? = some 59 then 1 else 0)):=by
 unfold Er;rw[h];dsimp only;by_cases he:j=f
 ·rw[if_pos M0,if_pos he]
 rw[if_neg M0,if_neg he,show f+(j-f)=j by omega]
theorem zW{s:O}{B n:Int}{j:Nat}(h:j<s.length):mB B n (s.drop j)=if fg (G s[j]) B<0 then(n,0)else((mB B (uU (n*B+fg (G s[j]) B)) (s.drop (j+1))).1,(mB B (uU (n*B+fg (G s[j]) B)) (s.drop (j+1))).2+1):=by
 rw[aC h];rfl
theorem Ij(x:UInt8):x=59 ↔ G x=59:=by
 constructor
 ·intro h;rw[h];rfl
 intro h;have:x.toNat=59:=by unfold G at h;omega
 exact eZ.mp this
theorem Aw(s:O)(w:H)(hs2:2<=s.length)(hL:s.length<=900000000):bF prog 112 #[.string (E s)] w (.tuple #[S (vY s).1,.int .i64 ((vY s).2:Nat)]):=by
 have zE:=F<|λ(n:Int) W=>Cn n W
 have hcase:(∃h:2<s.length,s[2]=120)\/(∃h:2<s.length,s[2]=88)\/(∃h:2<s.length,s[2]≠120/\s[2]≠88)\/s.length=2:=by
  by_cases h:2<s.length
  ·by_cases Y:s[2]=120
   ·exact .inl ⟨h,Y⟩
   by_cases I:s[2]=88
   ·exact .inr (.inl ⟨h,I⟩)
   exact .inr (.inr (.inl ⟨h,Y,I⟩))
  exact .inr (.inr (.inr M0))
 obtain⟨b,U⟩:=V (E s);obtain⟨R1,PE⟩:=V ((vY s).1);obtain⟨R2,hR2⟩:=V ((vY s).2);obtain⟨L,hl⟩:=V (s.length);have hsz:b.size=L:=by rw[U,aF,hl]
 rw[<-U,<-PE,<-hR2];have SL:=F (show L=s.length/\b=E s from⟨hl,U⟩);have RR:=F (show R1=(vY s).1/\R2=(vY s).2 from⟨PE,hR2⟩);rw[<-hl]at hs2 hL;clear U PE hR2;rcases hcase with⟨h,X⟩|⟨h,X⟩|⟨h,X,hy⟩|h
 ·have h2b:2<b.size:=by omega
  have hz:=cy SL.o.2 h2b h;rw[X,show G 120=120 from rfl]at hz;have HN:=F (show vY s=Er s 16 3 by unfold vY;rw[if_pos (by unfold FT;rw[decide_eq_true_eq,aG h,X];exact .inl rfl)]);have hL3:3<=L:=M0;clear X h;clear hl;go_enter func112,ntmps112;go_wp2_with fail
  go_loopw [6,7,8] (λnv iv _ wr=>∃ (n:Int) (j:Nat),3<=j/\j<=L/\0<=n/\n<=1114112/\nv=.int .i64 n/\iv=.int .i64 j/\Hid (mB 16 0 (s.drop 3)=((mB 16 n (s.drop j)).1,(mB 16 n (s.drop j)).2+(j-3)))/\wr=w) (λ_ i _ _=>L-(intOf i).toNat)
  case atStart=>exact⟨0,3,ag _,M0,P8,P8,rfl,rfl,F (by rw[jy];rfl),rfl⟩
  case round =>
   obtain⟨n,j,hfj,hjL,hn0,hn1,rfl,rfl,HI,rfl⟩:=hrel;by_cases hlt:j<L
   ·have hjl:j<s.length:=by have:=SL.o.1;omega
    have hjb:j<b.size:=M0;have hxj:=cy SL.o.2 hjb hjl;have hst:=HI.o;rw[zW hjl]at hst;have hdl:=Fo (G s[j]) 16 P8;have hrx:=gH s[j];have hdi:=λW=>dm (G s[j]) 16 W ⟨hrx.1,M0⟩ P8;obtain⟨d,hd⟩:=V (fg (G s[j]) 16);rw[<-hd]at hst hdl hdi;by_cases hneg:d<0
    ·rw[if_pos hneg]at hst
     have ln:=F (show ∀W,gB prog 90 #[.int .u8 ((b[j]'hjb).toNat:Int),.int .i64 16] W (.int .i64 d)from λW=>by rw[hxj];exact hdi W);have HR:=F<|(HN.o).trans (mM (B:=16) (n:=n) hfj (by rw[hst];simp));clear hst hdi hd hdl hrx HI;by_cases gT:j=3
     ·subst gT
      have HS:=F (show R1=[38]/\R2=1 by rw[RR.o.1,RR.o.2,HR.o];exact⟨rfl,rfl⟩);clear HR hxj
      go_wp2_with (first
       |(go_at_call 90;refine(ln.o _).m ?_;rintro e w3 ⟨rfl,hw⟩;subst hw))
      go_ret2
      exact⟨by rw[HS.o.1,HS.o.2];rfl,Below.refl _ _⟩
     have qjf:((j:Int)==3)=false:=by simp;omega
     have PY:¬ (j:Int)=3:=M0;by_cases kR:s[j]=59
     ·have HS:=F (show R1=iH n/\R2=j+1 by rw[RR.o.1,RR.o.2,HR.o,if_neg gT,aG hjl,kR];exact⟨rfl,rfl⟩)
      have X:((b[j]'hjb).toNat:Int)=59:=by rw[hxj,kR];rfl
      replace ln:=F (show ∀W,gB prog 90 #[.int .u8 59,.int .i64 16] W (.int .i64 d)from λW=>by have:=ln.o W;rw[X]at this;exact this);clear HR kR hxj gT
      go_wp2_with (first
       |(go_at_call 146;refine(zE.o _ _).m ?_;rintro e w9 ⟨rfl,U⟩;have jo:=F U;clear U)
       |(go_at_call 90;refine(ln.o _).m ?_;rintro e w3 ⟨rfl,hw⟩;subst hw))
      go_ret2
      exact⟨by rw[HS.o.1,HS.o.2];rfl,jo.o⟩
     have HS:=F (show R1=iH n/\R2=j by rw[RR.o.1,RR.o.2,HR.o,if_neg gT,aG hjl,if_neg (λh=>kR (bj h))];exact⟨rfl,rfl⟩);have GG:(G s[j]==59)=false:=by simp;exact λh=>kR ((Ij _).2 h)
     obtain⟨z,hz⟩:=V (G s[j]);rw[<-hz]at GG hxj;replace ln:=F (show ∀W,gB prog 90 #[.int .u8 z,.int .i64 16] W (.int .i64 d)from λW=>by have:=ln.o W;rw[hxj]at this;exact this);clear HR kR hz gT
     go_wp2_with (first
      |(go_at_call 146;refine(zE.o _ _).m ?_;rintro e w9 ⟨rfl,U⟩;have jo:=F U;clear U)
      |(go_at_call 90;refine(ln.o _).m ?_;rintro e w3 ⟨rfl,hw⟩;subst hw))
     go_ret2
     exact⟨by rw[HS.o.1,HS.o.2];rfl,jo.o⟩
    rw[if_neg hneg]at hst;dsimp only at hst;have ln:=F (show ∀W,gB prog 90 #[.int .u8 ((b[j]'hjb).toNat:Int),.int .i64 16] W (.int .i64 d)from λW=>by rw[hxj];exact hdi W);obtain⟨m1,hm1⟩:=V (n*16);obtain⟨m2,hm2⟩:=V (m1+d);have hw1:IntKind.i64.wrap (n*16)=m1:=by rw[hm1];exact IntWalk.i64_in _ M0
    have hw2:IntKind.i64.wrap (m1+d)=m2:=by rw[hm2];exact IntWalk.i64_in _ M0
    rw[<-hm1,<-hm2]at hst;obtain⟨n2,hn2⟩:=V (uU m2);have hmin:min m2 1114112=n2:=by rw[hn2];unfold uU;split <;>omega
    have h20:0<=n2/\n2<=1114112:=M0;rw[<-hn2]at hst;have HI2:=F (show mB 16 0 (s.drop 3)=((mB 16 n2 (s.drop (j+1))).1,(mB 16 n2 (s.drop (j+1))).2+(j+1-3))from hst.trans (by rw[show j+1-3=1+(j-3) by omega,<-Nat.add_assoc]));clear hst hdi hd hdl hrx HI hxj hm1 hm2 hn2
    go_wp2_with (first
     |(go_at_call 90;refine(ln.o _).m ?_;rintro e w3 ⟨rfl,hw⟩;subst hw))
    go_roundw
    case rel=>exact⟨n2,j+1,M0,M0,h20.1,h20.2,rfl,by go_num,HI2,by trivial⟩
    case measure=>simp[intOf];omega
   obtain rfl:j=L:=M0;have HR:=F<|(HN.o).trans (mM (B:=16) (n:=n) hfj (by rw[HI.o,show s.drop j=[]from by rw[SL.o.1,dF]];simp[mB]));clear HI;by_cases gT:j=3
   ·subst gT
    have HS:=F (show R1=[38]/\R2=1 by rw[RR.o.1,RR.o.2,HR.o];exact⟨rfl,rfl⟩);clear HR;go_wp2_with fail
    go_ret2
    exact⟨by rw[HS.o.1,HS.o.2];rfl,Below.refl _ _⟩
   have qjf:((j:Int)==3)=false:=by simp;omega
   have PY:¬ (j:Int)=3:=M0;have HS:=F (show R1=iH n/\R2=j by rw[RR.o.1,RR.o.2,HR.o,if_neg gT,eC (by have:=SL.o.1;omega)];exact⟨rfl,rfl⟩);clear HR gT
   go_wp2_with (first
    |(go_at_call 146;refine(zE.o _ _).m ?_;rintro e w9 ⟨rfl,U⟩;have jo:=F U;clear U))
   go_ret2
   exact⟨by rw[HS.o.1,HS.o.2];rfl,jo.o⟩
 ·have h2b:2<b.size:=by omega
  have hz:=cy SL.o.2 h2b h;rw[X,show G 88=88 from rfl]at hz;have HN:=F (show vY s=Er s 16 3 by unfold vY;rw[if_pos (by unfold FT;rw[decide_eq_true_eq,aG h,X];exact .inr rfl)]);have hL3:3<=L:=M0;clear X h;clear hl;go_enter func112,ntmps112;go_wp2_with fail
  go_loopw [6,7,8] (λnv iv _ wr=>∃ (n:Int) (j:Nat),3<=j/\j<=L/\0<=n/\n<=1114112/\nv=.int .i64 n/\iv=.int .i64 j/\Hid (mB 16 0 (s.drop 3)=((mB 16 n (s.drop j)).1,(mB 16 n (s.drop j)).2+(j-3)))/\wr=w) (λ_ i _ _=>L-(intOf i).toNat)
  case atStart=>exact⟨0,3,ag _,M0,P8,P8,rfl,rfl,F (by rw[jy];rfl),rfl⟩
  case round =>
   obtain⟨n,j,hfj,hjL,hn0,hn1,rfl,rfl,HI,rfl⟩:=hrel;by_cases hlt:j<L
   ·have hjl:j<s.length:=by have:=SL.o.1;omega
    have hjb:j<b.size:=M0;have hxj:=cy SL.o.2 hjb hjl;have hst:=HI.o;rw[zW hjl]at hst;have hdl:=Fo (G s[j]) 16 P8;have hrx:=gH s[j];have hdi:=λW=>dm (G s[j]) 16 W ⟨hrx.1,M0⟩ P8;obtain⟨d,hd⟩:=V (fg (G s[j]) 16);rw[<-hd]at hst hdl hdi;by_cases hneg:d<0
    ·rw[if_pos hneg]at hst
     have ln:=F (show ∀W,gB prog 90 #[.int .u8 ((b[j]'hjb).toNat:Int),.int .i64 16] W (.int .i64 d)from λW=>by rw[hxj];exact hdi W);have HR:=F<|(HN.o).trans (mM (B:=16) (n:=n) hfj (by rw[hst];simp));clear hst hdi hd hdl hrx HI;by_cases gT:j=3
     ·subst gT
      have HS:=F (show R1=[38]/\R2=1 by rw[RR.o.1,RR.o.2,HR.o];exact⟨rfl,rfl⟩);clear HR hxj
      go_wp2_with (first
       |(go_at_call 90;refine(ln.o _).m ?_;rintro e w3 ⟨rfl,hw⟩;subst hw))
      go_ret2
      exact⟨by rw[HS.o.1,HS.o.2];rfl,Below.refl _ _⟩
     have qjf:((j:Int)==3)=false:=by simp;omega
     have PY:¬ (j:Int)=3:=M0;by_cases kR:s[j]=59
     ·have HS:=F (show R1=iH n/\R2=j+1 by rw[RR.o.1,RR.o.2,HR.o,if_neg gT,aG hjl,kR];exact⟨rfl,rfl⟩)
      have X:((b[j]'hjb).toNat:Int)=59:=by rw[hxj,kR];rfl
      replace ln:=F (show ∀W,gB prog 90 #[.int .u8 59,.int .i64 16] W (.int .i64 d)from λW=>by have:=ln.o W;rw[X]at this;exact this);clear HR kR hxj gT
      go_wp2_with (first
       |(go_at_call 146;refine(zE.o _ _).m ?_;rintro e w9 ⟨rfl,U⟩;have jo:=F U;clear U)
       |(go_at_call 90;refine(ln.o _).m ?_;rintro e w3 ⟨rfl,hw⟩;subst hw))
      go_ret2
      exact⟨by rw[HS.o.1,HS.o.2];rfl,jo.o⟩
     have HS:=F (show R1=iH n/\R2=j by rw[RR.o.1,RR.o.2,HR.o,if_neg gT,aG hjl,if_neg (λh=>kR (bj h))];exact⟨rfl,rfl⟩);have GG:(G s[j]==59)=false:=by simp;exact λh=>kR ((Ij _).2 h)
     obtain⟨z,hz⟩:=V (G s[j]);rw[<-hz]at GG hxj;replace ln:=F (show ∀W,gB prog 90 #[.int .u8 z,.int .i64 16] W (.int .i64 d)from λW=>by have:=ln.o W;rw[hxj]at this;exact this);clear HR kR hz gT
     go_wp2_with (first
      |(go_at_call 146;refine(zE.o _ _).m ?_;rintro e w9 ⟨rfl,U⟩;have jo:=F U;clear U)
      |(go_at_call 90;refine(ln.o _).m ?_;rintro e w3 ⟨rfl,hw⟩;subst hw))
     go_ret2
     exact⟨by rw[HS.o.1,HS.o.2];rfl,jo.o⟩
    rw[if_neg hneg]at hst;dsimp only at hst;have ln:=F (show ∀W,gB prog 90 #[.int .u8 ((b[j]'hjb).toNat:Int),.int .i64 16] W (.int .i64 d)from λW=>by rw[hxj];exact hdi W);obtain⟨m1,hm1⟩:=V (n*16);obtain⟨m2,hm2⟩:=V (m1+d);have hw1:IntKind.i64.wrap (n*16)=m1:=by rw[hm1];exact IntWalk.i64_in _ M0
    have hw2:IntKind.i64.wrap (m1+d)=m2:=by rw[hm2];exact IntWalk.i64_in _ M0
    rw[<-hm1,<-hm2]at hst;obtain⟨n2,hn2⟩:=V (uU m2);have hmin:min m2 1114112=n2:=by rw[hn2];unfold uU;split <;>omega
    have h20:0<=n2/\n2<=1114112:=M0;rw[<-hn2]at hst;have HI2:=F (show mB 16 0 (s.drop 3)=((mB 16 n2 (s.drop (j+1))).1,(mB 16 n2 (s.drop (j+1))).2+(j+1-3))from hst.trans (by rw[show j+1-3=1+(j-3) by omega,<-Nat.add_assoc]));clear hst hdi hd hdl hrx HI hxj hm1 hm2 hn2
    go_wp2_with (first
     |(go_at_call 90;refine(ln.o _).m ?_;rintro e w3 ⟨rfl,hw⟩;subst hw))
    go_roundw
    case rel=>exact⟨n2,j+1,M0,M0,h20.1,h20.2,rfl,by go_num,HI2,by trivial⟩
    case measure=>simp[intOf];omega
   obtain rfl:j=L:=M0;have HR:=F<|(HN.o).trans (mM (B:=16) (n:=n) hfj (by rw[HI.o,show s.drop j=[]from by rw[SL.o.1,dF]];simp[mB]));clear HI;by_cases gT:j=3
   ·subst gT
    have HS:=F (show R1=[38]/\R2=1 by rw[RR.o.1,RR.o.2,HR.o];exact⟨rfl,rfl⟩);clear HR;go_wp2_with fail
    go_ret2
    exact⟨by rw[HS.o.1,HS.o.2];rfl,Below.refl _ _⟩
   have qjf:((j:Int)==3)=false:=by simp;omega
   have PY:¬ (j:Int)=3:=M0;have HS:=F (show R1=iH n/\R2=j by rw[RR.o.1,RR.o.2,HR.o,if_neg gT,eC (by have:=SL.o.1;omega)];exact⟨rfl,rfl⟩);clear HR gT
   go_wp2_with (first
    |(go_at_call 146;refine(zE.o _ _).m ?_;rintro e w9 ⟨rfl,U⟩;have jo:=F U;clear U))
   go_ret2
   exact⟨by rw[HS.o.1,HS.o.2];rfl,jo.o⟩
 ·have h2b:2<b.size:=by omega
  have hz:=cy SL.o.2 h2b h;have b0j:(G s[2]==120)=false:=by simp;exact λe=>X (eZ.mp (by unfold G at e;show s[2].toNat=120;omega))
  have q88:(G s[2]==88)=false:=by simp;exact λe=>hy (eZ.mp (by unfold G at e;show s[2].toNat=88;omega))
  have HN:=F (show vY s=Er s 10 2 by unfold vY;rw[if_neg (by unfold FT;rw[decide_eq_true_eq,aG h];exact λe=>e.elim (λe=>X (bj e)) (λe=>hy (bj e)))]);have hL2:2<L:=M0;obtain⟨Z',hZ⟩:=V (G s[2]);rw[<-hZ]at hz b0j q88;clear X hy h hZ;clear hl;go_enter func112,ntmps112;go_wp2_with fail
  go_loopw [6,7,8] (λnv iv _ wr=>∃ (n:Int) (j:Nat),2<=j/\j<=L/\0<=n/\n<=1114112/\nv=.int .i64 n/\iv=.int .i64 j/\Hid (mB 10 0 (s.drop 2)=((mB 10 n (s.drop j)).1,(mB 10 n (s.drop j)).2+(j-2)))/\wr=w) (λ_ i _ _=>L-(intOf i).toNat)
  case atStart=>exact⟨0,2,ag _,M0,P8,P8,rfl,rfl,F (by rw[jy];rfl),rfl⟩
  case round =>
   obtain⟨n,j,hfj,hjL,hn0,hn1,rfl,rfl,HI,rfl⟩:=hrel;by_cases hlt:j<L
   ·have hjl:j<s.length:=by have:=SL.o.1;omega
    have hjb:j<b.size:=M0;have hxj:=cy SL.o.2 hjb hjl;have hst:=HI.o;rw[zW hjl]at hst;have hdl:=Fo (G s[j]) 10 P8;have hrx:=gH s[j];have hdi:=λW=>dm (G s[j]) 10 W ⟨hrx.1,M0⟩ P8;obtain⟨d,hd⟩:=V (fg (G s[j]) 10);rw[<-hd]at hst hdl hdi;by_cases hneg:d<0
    ·rw[if_pos hneg]at hst
     have ln:=F (show ∀W,gB prog 90 #[.int .u8 ((b[j]'hjb).toNat:Int),.int .i64 10] W (.int .i64 d)from λW=>by rw[hxj];exact hdi W);have HR:=F<|(HN.o).trans (mM (B:=10) (n:=n) hfj (by rw[hst];simp));clear hst hdi hd hdl hrx HI;by_cases gT:j=2
     ·subst gT
      have HS:=F (show R1=[38]/\R2=1 by rw[RR.o.1,RR.o.2,HR.o];exact⟨rfl,rfl⟩);clear HR hxj;replace ln:=F (show ∀W,gB prog 90 #[.int .u8 Z',.int .i64 10] W (.int .i64 d)from λW=>by have:=ln.o W;rw[hz]at this;exact this)
      go_wp2_with (first
       |(go_at_call 90;refine(ln.o _).m ?_;rintro e w3 ⟨rfl,hw⟩;subst hw))
      go_ret2
      exact⟨by rw[HS.o.1,HS.o.2];rfl,Below.refl _ _⟩
     have qjf:((j:Int)==2)=false:=by simp;omega
     have PY:¬ (j:Int)=2:=M0;by_cases kR:s[j]=59
     ·have HS:=F (show R1=iH n/\R2=j+1 by rw[RR.o.1,RR.o.2,HR.o,if_neg gT,aG hjl,kR];exact⟨rfl,rfl⟩)
      have X:((b[j]'hjb).toNat:Int)=59:=by rw[hxj,kR];rfl
      replace ln:=F (show ∀W,gB prog 90 #[.int .u8 59,.int .i64 10] W (.int .i64 d)from λW=>by have:=ln.o W;rw[X]at this;exact this);clear HR kR hxj gT
      go_wp2_with (first
       |(go_at_call 146;refine(zE.o _ _).m ?_;rintro e w9 ⟨rfl,U⟩;have jo:=F U;clear U)
       |(go_at_call 90;refine(ln.o _).m ?_;rintro e w3 ⟨rfl,hw⟩;subst hw))
      go_ret2
      exact⟨by rw[HS.o.1,HS.o.2];rfl,jo.o⟩
     have HS:=F (show R1=iH n/\R2=j by rw[RR.o.1,RR.o.2,HR.o,if_neg gT,aG hjl,if_neg (λh=>kR (bj h))];exact⟨rfl,rfl⟩);have GG:(G s[j]==59)=false:=by simp;exact λh=>kR ((Ij _).2 h)
     obtain⟨z,hz⟩:=V (G s[j]);rw[<-hz]at GG hxj;replace ln:=F (show ∀W,gB prog 90 #[.int .u8 z,.int .i64 10] W (.int .i64 d)from λW=>by have:=ln.o W;rw[hxj]at this;exact this);clear HR kR hz gT
     go_wp2_with (first
      |(go_at_call 146;refine(zE.o _ _).m ?_;rintro e w9 ⟨rfl,U⟩;have jo:=F U;clear U)
      |(go_at_call 90;refine(ln.o _).m ?_;rintro e w3 ⟨rfl,hw⟩;subst hw))
     go_ret2
     exact⟨by rw[HS.o.1,HS.o.2];rfl,jo.o⟩
    rw[if_neg hneg]at hst;dsimp only at hst;have ln:=F (show ∀W,gB prog 90 #[.int .u8 ((b[j]'hjb).toNat:Int),.int .i64 10] W (.int .i64 d)from λW=>by rw[hxj];exact hdi W);obtain⟨m1,hm1⟩:=V (n*10);obtain⟨m2,hm2⟩:=V (m1+d);have hw1:IntKind.i64.wrap (n*10)=m1:=by rw[hm1];exact IntWalk.i64_in _ M0
    have hw2:IntKind.i64.wrap (m1+d)=m2:=by rw[hm2];exact IntWalk.i64_in _ M0
    rw[<-hm1,<-hm2]at hst;obtain⟨n2,hn2⟩:=V (uU m2);have hmin:min m2 1114112=n2:=by rw[hn2];unfold uU;split <;>omega
    have h20:0<=n2/\n2<=1114112:=M0;rw[<-hn2]at hst;have HI2:=F (show mB 10 0 (s.drop 2)=((mB 10 n2 (s.drop (j+1))).1,(mB 10 n2 (s.drop (j+1))).2+(j+1-2))from hst.trans (by rw[show j+1-2=1+(j-2) by omega,<-Nat.add_assoc]));clear hst hdi hd hdl hrx HI hxj hm1 hm2 hn2
    go_wp2_with (first
     |(go_at_call 90;refine(ln.o _).m ?_;rintro e w3 ⟨rfl,hw⟩;subst hw))
    go_roundw
    case rel=>exact⟨n2,j+1,M0,M0,h20.1,h20.2,rfl,by go_num,HI2,by trivial⟩
    case measure=>simp[intOf];omega
   obtain rfl:j=L:=M0;have HR:=F<|(HN.o).trans (mM (B:=10) (n:=n) hfj (by rw[HI.o,show s.drop j=[]from by rw[SL.o.1,dF]];simp[mB]));clear HI;by_cases gT:j=2
   ·subst gT
    have HS:=F (show R1=[38]/\R2=1 by rw[RR.o.1,RR.o.2,HR.o];exact⟨rfl,rfl⟩);clear HR;go_wp2_with fail
    go_ret2
    exact⟨by rw[HS.o.1,HS.o.2];rfl,Below.refl _ _⟩
   have qjf:((j:Int)==2)=false:=by simp;omega
   have PY:¬ (j:Int)=2:=M0;have HS:=F (show R1=iH n/\R2=j by rw[RR.o.1,RR.o.2,HR.o,if_neg gT,eC (by have:=SL.o.1;omega)];exact⟨rfl,rfl⟩);clear HR gT
   go_wp2_with (first
    |(go_at_call 146;refine(zE.o _ _).m ?_;rintro e w9 ⟨rfl,U⟩;have jo:=F U;clear U))
   go_ret2
   exact⟨by rw[HS.o.1,HS.o.2];rfl,jo.o⟩
 have HN:=F (show vY s=Er s 10 2 by unfold vY;rw[if_neg (by unfold FT;rw[decide_eq_true_eq,eC M0];rintro(e|e) <;>cases e)]);have hL2:¬ 2<L:=M0;clear h;clear hl;go_enter func112,ntmps112;go_wp2_with fail
 go_loopw [6,7,8] (λnv iv _ wr=>∃ (n:Int) (j:Nat),2<=j/\j<=L/\0<=n/\n<=1114112/\nv=.int .i64 n/\iv=.int .i64 j/\Hid (mB 10 0 (s.drop 2)=((mB 10 n (s.drop j)).1,(mB 10 n (s.drop j)).2+(j-2)))/\wr=w) (λ_ i _ _=>L-(intOf i).toNat)
 case atStart=>exact⟨0,2,ag _,M0,P8,P8,rfl,rfl,F (by rw[jy];rfl),rfl⟩
 case round =>
  obtain⟨n,j,hfj,hjL,hn0,hn1,rfl,rfl,HI,rfl⟩:=hrel;by_cases hlt:j<L
  ·omega
  obtain rfl:j=L:=M0;have HR:=F<|(HN.o).trans (mM (B:=10) (n:=n) hfj (by rw[HI.o,show s.drop j=[]from by rw[SL.o.1,dF]];simp[mB]));clear HI;by_cases gT:j=2
  ·subst gT
   have HS:=F (show R1=[38]/\R2=1 by rw[RR.o.1,RR.o.2,HR.o];exact⟨rfl,rfl⟩);clear HR;go_wp2_with fail
   go_ret2
   exact⟨by rw[HS.o.1,HS.o.2];rfl,Below.refl _ _⟩
  omega

theorem GJ{s:O}{n:Nat}(h:fT ((s.drop 1).take (n+1))=none):iC s (n+1)=iC s n:=by rw[iC,h]
theorem GK{s t:O}{n:Nat}(h:fT ((s.drop 1).take (n+1))=some t):iC s (n+1)=if VL s (n+1)=true then([38],1)else(t,n+2):=by rw[iC,h]
theorem Ra{s:O}{n:Nat}(h:n<s.length)(e:s[n]=59):VL s n=false:=by
 unfold VL;rw[aG h,e];rfl
theorem VM{s:O}{n:Nat}(h:s.length<=n+1):VL s n=false:=by
 unfold VL;rw[eC (i:=n+1) h];exact Bool.and_false _
theorem a0x{s:O}{n:Nat}(h:n+1<s.length)(e:s[n]≠59):VL s n=yz s[n+1]:=by
 unfold VL;rw[aG (show n<s.length by omega),aG h,decide_eq_true (p:=some s[n]≠some 59) (λx=>e (bj x)),Ev]
theorem xG(s:O)(w:H)(Y:1<=s.length)(hL:s.length<=900000000):bF prog 76 #[.string (E s)] w (.tuple #[S (gX s).1,.int .i64 ((gX s).2:Nat)]):=by
 have hpa:=λW=>mE s [38,35] W;by_cases hp:Lib.hasPrefix s [38,35]=true
 ·have I:2<=s.length:=by
   unfold Lib.hasPrefix at hp;have:=(ej.mp hp).length_le
   simpa using this
  have hnb:=λW=>Aw s W I hL;rw[show gX s=vY s by unfold gX;rw[if_pos hp]];rw[hp]at hpa;obtain⟨R1,PE⟩:=V ((vY s).1);obtain⟨R2,hR2⟩:=V ((vY s).2);obtain⟨b,U⟩:=V (E s);rw[<-PE,<-hR2,<-U]at hnb;rw[<-PE,<-hR2,<-U];rw[<-U]at hpa;have HP:=F (show ∀W,bP prog 61 #[.string b,.string ⟨#[38,35]⟩] W (.bool true)from hpa);have MW:=F hnb;clear hpa hnb PE hR2 U hp;go_enter func76,ntmps76
  go_wp2_with (first
   |(go_at_call 61;refine(HP.o _).m ?_;rintro e w1 ⟨rfl,hw⟩;subst w1)
   |(go_at_call 112;refine(MW.o _).m ?_;rintro e w2 ⟨rfl,U⟩;have HB2:=F U;clear U))
  go_ret2
  exact⟨rfl,HB2.o⟩
 have hpf:Lib.hasPrefix s [38,35]=false:=by simpa using hp
 rw[hpf]at hpa;have hrf:gX s=iC s (min 15 (s.length-1)):=by unfold gX;rw[if_neg hp]
 obtain⟨R1,PE⟩:=V ((gX s).1);obtain⟨R2,hR2⟩:=V ((gX s).2);obtain⟨b,U⟩:=V (E s);obtain⟨L,hl⟩:=V (s.length);have hsz:b.size=L:=by rw[U,aF,hl]
 obtain⟨m0,hm0⟩:=V (min 15 (L-1));have hmi:IntKind.i64.wrap ((L:Int)-1)=((L-1:Nat):Int):=by rw[show(L:Int)-1=((L-1:Nat):Int) by omega];exact IntWalk.i64_in _ M0
 obtain⟨L1,hL1⟩:∃ x:Nat,x=L-1:=⟨_,rfl⟩;rw[<-hL1]at hmi hm0;have hmin:min 15 (L1:Int)=(m0:Int):=M0;have hmL:m0<=L1:=M0;rw[<-PE,<-hR2,<-U];rw[<-U]at hpa;have HP:=F (show ∀W,bP prog 61 #[.string b,.string ⟨#[38,35]⟩] W (.bool false)from hpa);have HR:=F (show gX s=iC s m0 by rw[hrf,hm0,hL1,hl]);have RR:=F (show R1=(gX s).1/\R2=(gX s).2 from⟨PE,hR2⟩);have SL:=F (show L=s.length/\b=E s from⟨hl,U⟩);have J5:=F (show L1+1=L by omega);rw[<-hl]at hL;clear hpa PE hR2 U hp hpf hrf hl hm0 hL1 Y;go_enter func76,ntmps76
 go_wp2_with (first
  |(go_at_call 61;refine(HP.o _).m ?_;rintro e w1 ⟨rfl,hw⟩;subst w1))
 clear hmi hmin
 go_loopw [4,5,6] (λiv _ _ wr=>∃ n:Nat,n<=L1/\iv=.int .i64 n/\Hid (gX s=iC s n)/\Hid (r7 w wr)) (λi _ _ _=>(intOf i).toNat)
 case atStart=>exact⟨m0,hmL,rfl,HR,F (Below.refl _ _)⟩
 case round =>
  obtain⟨n,hn,rfl,HG,HB⟩:=hrel;by_cases hn0:n=0
  ·subst hn0
   have HS:=F (show R1=[38]/\R2=1 by rw[RR.o.1,RR.o.2,HG.o];exact⟨rfl,rfl⟩);go_wp2_with fail
   go_ret2
   exact⟨by rw[HS.o.1,HS.o.2];rfl,HB.o⟩
  obtain⟨m,hm⟩:∃ m,n=m+1:=⟨n-1,M0⟩;have hnp:0<n:=M0;have hnL:n<L:=by have:=J5.o;omega
  obtain⟨n1,hn1⟩:∃ x:Nat,x=n+1:=⟨_,rfl⟩;have hw1:IntKind.i64.wrap ((n:Int)+1)=(n1:Int):=by rw[show(n:Int)+1=(n1:Int) by omega];exact IntWalk.i64_in _ M0
  have b4K:1<=n1:=M0;have b4L:n1<=L:=M0;obtain⟨tb,htb⟩:=V (E ((s.drop 1).take n));have hex:b.extract 1 n1=tb:=by rw[SL.o.2,cd,htb,hn1];rfl
  have hnm:=λW=>Fx ((s.drop 1).take n) W (by rw[aD];have:=SL.o.1;omega);rw[<-htb]at hnm;cases hf:fT ((s.drop 1).take n)with
  |none =>
   rw[hf]at hnm;have mX:=F (show ∀W,bF prog 113 #[.string tb] W (.tuple #[.string ⟨#[]⟩,.bool false])from hnm);have HG2:=F (show gX s=iC s m by rw[HG.o,hm];exact GJ (by rw[<-hm];exact hf));have hw2:IntKind.i64.wrap ((n:Int)-1)=(m:Int):=by rw[show(n:Int)-1=(m:Int) by omega];exact IntWalk.i64_in _ M0
   have a9L:m<=L1:=M0;have HM:=F (show m<n by omega);clear hnm htb hf hm hn1 hn0
   go_wp2_with (first
    |(go_at_call 113;refine(mX.o _).m ?_;rintro e w2 ⟨rfl,U⟩;have HB2:=F<|HB.o.trans (U.m HB.o.size);clear U))
   go_roundw
   case rel=>exact⟨m,a9L,rfl,HG2,HB2⟩
   case measure=>have:=HM.o;simp[intOf];omega
  |some t =>
   rw[hf]at hnm;obtain⟨tt,Ep⟩:=V (E t);have mX:=F (show ∀W,bF prog 113 #[.string tb] W (.tuple #[.string tt,.bool true])from λW=>by rw[Ep];exact hnm W);have hg:=HG.o;rw[hm,GK (by rw[<-hm];exact hf),<-hm,show m+2=n1 by omega]at hg;have TT:=F Ep;have hsl:n<s.length:=by have:=SL.o.1;omega
   have hbl:n<b.size:=M0;have X:=cy SL.o.2 hbl hsl;by_cases kR:s[n]=59
   ·rw[Ra hsl kR,if_neg P8]at hg
    have HS:=F (show R1=t/\R2=n1 by rw[RR.o.1,RR.o.2,hg];exact⟨rfl,rfl⟩);rw[kR,show G 59=59 from rfl]at X;clear hnm htb hf hm hn1 hn0 Ep hg kR
    go_wp2_with (first
     |(go_at_call 113;refine(mX.o _).m ?_;rintro e w2 ⟨rfl,U⟩;have HB2:=F<|HB.o.trans (U.m HB.o.size);clear U))
    go_ret2
    exact⟨by rw[HS.o.1,HS.o.2,TT.o];rfl,HB2.o⟩
   have GG:(G s[n]==59)=false:=by simp;exact λh=>kR ((Ij _).2 h)
   obtain⟨z,hz⟩:=V (G s[n]);rw[<-hz]at GG X;have b4e:¬ z=59:=by simpa using GG
   by_cases hlast:n1<L
   ·have hsl1:n1<s.length:=by have:=SL.o.1;omega
    have a9p:n1<b.size:=M0;have hx1:=cy SL.o.2 a9p hsl1
    have hon:VL s n=yz s[n1]:=by
     have:=a0x (s:=s) (n:=n) M0 kR;rw[this]
     congr 1
     exact getElem_congr rfl hn1.symm _
    rw[hon]at hg;have hgo:=λW=>Pu s[n1] W;obtain⟨y,hy⟩:=V (G s[n1]);rw[<-hy]at hx1 hgo;cases hq:yz s[n1]with
    |true =>
     rw[hq]at hg hgo;have HGO:=F hgo;have HS:=F (show R1=[38]/\R2=1 by rw[RR.o.1,RR.o.2,hg];exact⟨rfl,rfl⟩);clear hnm htb hf hm hn1 hn0 Ep hg kR hz hon hgo hq hy
     go_wp2_with (first
      |(go_at_call 113;refine(mX.o _).m ?_;rintro e w2 ⟨rfl,U⟩;have HB2:=F<|HB.o.trans (U.m HB.o.size);clear U)
      |(go_at_call 114;refine(HGO.o _).m ?_;rintro e w3 ⟨rfl,hw⟩;subst w3))
     go_ret2
     exact⟨by rw[HS.o.1,HS.o.2];rfl,HB2.o⟩
    |false =>
     rw[hq]at hg hgo;have HGO:=F hgo;have HS:=F (show R1=t/\R2=n1 by rw[RR.o.1,RR.o.2,hg];exact⟨rfl,rfl⟩);clear hnm htb hf hm hn1 hn0 Ep hg kR hz hon hgo hq hy
     go_wp2_with (first
      |(go_at_call 113;refine(mX.o _).m ?_;rintro e w2 ⟨rfl,U⟩;have HB2:=F<|HB.o.trans (U.m HB.o.size);clear U)
      |(go_at_call 114;refine(HGO.o _).m ?_;rintro e w3 ⟨rfl,hw⟩;subst w3))
     go_ret2
     exact⟨by rw[HS.o.1,HS.o.2,TT.o];rfl,HB2.o⟩
   rw[VM (by have:=SL.o.1;omega),if_neg P8]at hg;have HS:=F (show R1=t/\R2=n1 by rw[RR.o.1,RR.o.2,hg];exact⟨rfl,rfl⟩);have a9I:¬ (n1:Int)<L:=M0;clear hnm htb hf hm hn1 hn0 Ep hg kR hz
   go_wp2_with (first
    |(go_at_call 113;refine(mX.o _).m ?_;rintro e w2 ⟨rfl,U⟩;have HB2:=F<|HB.o.trans (U.m HB.o.size);clear U))
   go_ret2
   exact⟨by rw[HS.o.1,HS.o.2,TT.o];rfl,HB2.o⟩

theorem Qv:∀ r:O,(r.dropWhile na=[]->Lib.indexByte r 38=-1)/\(r.dropWhile na ≠ []->Lib.indexByte r 38=((r.takeWhile na).length:Nat))
 | []=>⟨λ_=>rfl,λh=>absurd rfl h⟩
 |y::l=>by
  have ih:=Qv l;unfold Lib.indexByte;by_cases h:y=38
  ·subst h
   rw[aX P8,bI P8];exact And.intro (λe=>absurd e Oc) (λ_=>rfl)
  have Y:(y==38)=false:=by simpa using h
  have I:na y=true:=by unfold na;simpa using h
  rw[aQ I,bJ I,Y];constructor
  ·intro e;rw[ih.1 e];rfl
  intro e;rw[ih.2 e];have:((((l.takeWhile na).length:Nat):Int) == -1)=false:=Oc;rw[this];simp
theorem b0e(l:O)(W:H):bP prog 75 #[.string (E l),.int .u8 38] W (.int .i64 (Lib.indexByte l 38)):=by
 have h:=Any.strings_IndexByte laysIB (E l) 38 W;rw[show(E l).data.toList=l from cW l]at h;exact h
theorem Ch(s:O)(w:H)(hL:s.length<=900000000):bF prog 45 #[.string (E s)] w (S (pl s)):=by
 obtain⟨b,U⟩:=V (E s);have hel:=uw s.length s (ag _);obtain⟨T,hT⟩:=V (pl s);rw[<-hT]at hel ⊢;have HT:=F (show T.length<=5400000000 by omega);have HI:=F (show T=[]++pl s from hT);have HLs:=F hL;rw[<-U];have HB0:=F U;clear hel hT hL U;go_enter func45,ntmps45;go_wp2_with fail
 go_loopw [0,4,5,6] (λsv _ _ _ wr=>∃ rb:ByteArray,sv=.string rb/\Hid (∃r o:O,rb=E r/\r.length<=900000000/\T=o++pl r/\Hb w o wr)) (λsv _ _ _ _=>Gm sv)
 case atStart=>exact⟨b,rfl,F ⟨s,[],HB0.o,HLs.o,HI.o,Hb.fresh w⟩⟩
 case round =>
  obtain⟨rb,rfl,HR⟩:=hrel;obtain⟨r,o,hrb,hrl,ZG,hbd⟩:=HR.o;clear HR;have hol:o.length<=5400000000:=by have:=HT.o;have I:=congrArg List.length ZG;rw[ae]at I;omega
  have pN:=F hbd;have HO:=F hol;clear hbd hol;by_cases hr0:r=[]
  ·have HE:=F (show T=o by rw[ZG,hr0,Uz,aV])
   have e1:rb.toList.isEmpty=true:=by rw[hrb,hr0,aB];rfl
   have e2:rb.toList=[]:=by rw[hrb,hr0,aB]
   clear ZG hr0 hrb hrl
   go_wp2_with (first
    |(go_at_call 73;refine(Hb.str pN.o).m ?_;rintro e w2 ⟨rfl,hb2⟩;have HB2:=F hb2;clear hb2))
   go_ret;exact⟨by rw[HE.o];rfl,HB2.o⟩
  have e1:rb.toList.isEmpty=false:=by rw[hrb,aB];simpa using hr0
  have e2:¬ rb.toList=[]:=by rw[hrb,aB];exact hr0
  have hix:=λW=>b0e r W;rw[<-hrb]at hix;have nB:=Qv r;have heq:=z0 r;obtain⟨A',hA⟩:=V (r.takeWhile na);obtain⟨D,hD⟩:=V (r.dropWhile na);have ZC:r=A'++D:=by rw[hA,hD,ez]
  rw[<-hA,<-hD]at nB heq;by_cases hd:D=[]
  ·rw[nB.1 hd]at hix
   rw[if_pos hd,aV]at heq;have hrA:r=A':=by rw[ZC,hd,aV]
   have HE:=F (show T=o++r by rw[ZG,heq,<-hrA]);have W3:=F hix;have xo:=F hrb;have EF:=F hrl;have hsr:S r=.string rb:=by rw[hrb]
   have HWS:=F<|λ(W:H) (h:Hb w o W)=>Hb.ws r h (by have:=HO.o;have:=EF.o;omega);rw[hsr]at HWS;clear hix nB heq hrA hrb hrl hsr ZC hA hD hd ZG hr0
   go_wp2_with (first
    |(go_at_call 75;refine(W3.o _).m ?_;rintro e w2 ⟨rfl,hw⟩;subst w2)
    |(go_at_call 68;refine(HWS.o _ pN.o).m ?_;rintro e w3 ⟨rfl,qR⟩;have lA:=F qR;clear qR)
    |(go_at_call 73;refine(Hb.str lA.o).m ?_;rintro e w4 ⟨rfl,hb2⟩;have HB2:=F hb2;clear hb2))
   go_ret;exact⟨by rw[HE.o];rfl,HB2.o⟩
  rw[nB.2 hd]at hix;rw[if_neg hd]at heq
  have hdl:1<=D.length:=by cases hD':D with
   |nil=>exact absurd hD' hd
   |cons x l=>rw[ah];omega
  have hlen:r.length=A'.length+D.length:=by rw[ZC,ae]
  have hrn:=wA hdl;have hrf:=Dv D;have href:=λW=>xG D W hdl M0;obtain⟨t,ht⟩:=V ((gX D).1);obtain⟨n,hn⟩:=V ((gX D).2);rw[<-ht,<-hn]at heq href;rw[<-hn]at hrn;rw[<-ht]at hrf;obtain⟨i,hi⟩:=V (A'.length);obtain⟨N,hN⟩:=V (rb.size);have hsz:rb.size=N:=hN.symm;have hNr:N=r.length:=by rw[hN,hrb,aF]
  obtain⟨j,hj⟩:=V (i+n);rw[<-hi]at hix;obtain⟨ab,hab⟩:=V (E A');obtain⟨db,hdb⟩:=V (E D);obtain⟨tb,htb⟩:=V (E (D.drop n));have hxa:rb.extract 0 i=ab:=by rw[hrb,hab,cd,ZC,hi];simp
  have hxd:rb.extract i N=db:=by rw[hrb,hdb,cd,hNr,ZC,hi];simp
  have hxt:rb.extract j N=tb:=by
   rw[hrb,htb,cd,hNr,aP (by rw[aj];omega),ZC,hj,hi,<-List.drop_drop,a1B]
  have hiN:i<=N:=M0;have hjN:j<=N:=M0;have hwj:IntKind.i64.wrap ((i:Int)+(n:Int))=(j:Int):=by rw[show(i:Int)+(n:Int)=(j:Int) by omega];exact IntWalk.i64_in _ M0
  rw[<-hdb]at href;have hi0:¬ (i:Int)<0:=M0;have a7Y:=F href;have W3:=F hix;have HA1:=F (show o.length+A'.length<=1099511627776 by have:=HO.o;omega);have HA2:=F (show(o++A').length+t.length<=1099511627776 by have:=HO.o;rw[ae];omega);have hsa:S A'=.string ab:=by rw[hab]
  have HW1:=F<|λ(W:H) (h:Hb w o W)=>Hb.ws A' h HA1.o;rw[hsa]at HW1;have HW2:=F<|λ(W:H) (h:Hb w (o++A') W)=>Hb.ws t h HA2.o;have HE:=F (show T=(o++A'++t)++pl (D.drop n) by rw[ZG,heq];simp only[bB]);have Hy:=F (show tb=E (D.drop n)/\(D.drop n).length<=900000000/\tb.size<N from⟨htb,by rw[aj];omega,by rw[htb,aF,aj];omega⟩);clear href hix nB heq hrb hrl ZC hA hD hd ZG hr0 hdl hlen hrn hrf ht hn hi hN hNr hj hab hdb htb hsa
  go_wp2_with (first
   |(go_at_call 75;refine(W3.o _).m ?_;rintro e w2 ⟨rfl,hw⟩;subst w2)
   |(go_at_call 68;refine(HW1.o _ pN.o).m ?_;rintro e w3 ⟨rfl,qR⟩;have lA:=F qR;clear qR pN)
   |(go_at_call 76;refine(a7Y.o _).m ?_;rintro e w4 ⟨rfl,hb4⟩;have zA:=F<|lA.o.step hb4;clear hb4 lA)
   |(go_at_call 68;refine(HW2.o _ zA.o).m ?_;rintro e w5 ⟨rfl,a31⟩;have Yo:=F a31;clear a31 zA))
  go_roundw
  case rel=>exact⟨tb,rfl,F ⟨D.drop n,o++A'++t,Hy.o.1,Hy.o.2.1,HE.o,Yo.o⟩⟩
  case measure=>have:=Hy.o.2.2;simp[Gm];omega
