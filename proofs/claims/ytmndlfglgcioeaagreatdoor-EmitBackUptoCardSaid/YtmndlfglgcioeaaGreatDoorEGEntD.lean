/- Joined texts. -/
import Derived.Test.YtmndlfglgcioeaaGreatDoorEGEntC
import Derived.Test.YtmndlfglgcioeaaGreatDoorEGAthH
set_option maxHeartbeats 40000000
namespace Go.Proofs.YtmndlfglgcioeaaGreatDoor
open Tryz
open Go.RowKit
set_option maxRecDepth 10000
theorem Z7(c:Int):bs (enc c)=Utf8.encode c:=by unfold enc;rw[ql]
theorem PH:∀ p∈mB,p.2<128:=by decide
theorem PG(s:Bytes):nR s<128:=by
 unfold nR;cases h:look mB s with
 |none=>exact(by decide:0<128)
 |some c=>exact PH _ (ln h)
theorem Gm(s:Bytes)(w:World):bN prog 154 #[.string (bs s)] w (.tuple #[S ((ju s).getD []),.bool (ju s).isSome]):=by
 have hlt:=PG s;have hbb:=fun W=>Lw s W;obtain⟨c,hc⟩:=az (nR s);rw[<-hc]at hbb hlt;obtain⟨b,hb⟩:=az (bs s);have E:=h_ (show b.toList=s by rw[hb,ay]);rw[<-hb]at hbb ⊢;clear hb;by_cases h0:c=0
 ·subst h0
  have lC:=h_ (show ∀W,bN prog 179 #[.string b] W (.int .u8 0)from hbb);have HC:=h_ hc.symm;clear hbb hlt hc;go_enter func154,ntmps154
  go_wp2_with (first
   |(go_at_call 179;refine(lC.out _).mono ?_;rintro e w1 ⟨rfl,hb1⟩;have HB1:=h_ hb1;clear hb1)
   |fail)
  all_goals
   have hbf:ju s=look qE s:=by unfold ju;rw[if_neg (by rw[HC.out];exact fun h=>h rfl)]
   simp only[E.out,beq_iff_eq,beq_eq_false_iff_ne,ne_eq]at *
   go_ret2
   refine⟨?_,HB1.out⟩
   first
    |(refine r5 ?_;simp_all[qE,look];done)
    |(refine xt ?_;simp_all[qE,look];done)
 have lC:=h_ hbb;have hbf:=h_ (show ju s=some (enc (c:Int)) by unfold ju;rw[<-hc,if_pos h0]);have hw:IntKind.i32.wrap (c:Int)=(c:Int):=by have:=IntWalk.i32_in (c:Int) (by omega);exact this
 have h1:¬ (c:Int)=0:=by omega
 have h2:((c:Int)==0)=false:=by simp;omega
 clear hbb hc h0;go_enter func154,ntmps154
 go_wp2_with (first
  |(go_at_call 179;refine(lC.out _).mono ?_;rintro e w1 ⟨rfl,hb1⟩;have HB1:=h_ hb1;clear hb1)
  |fail)
 go_ret2
 refine⟨?_,HB1.out⟩;rw[<-Z7];exact r5 hbf.out
theorem EM(s:Bytes):Lib.hasSuffix s [59]=decide (s.getLast? = some 59):=by
 cases hu:s.reverse with
 |nil =>
  have:s=[]:=by simpa using hu
  subst this;decide
 |cons x r =>
  have:s=r.reverse++[x]:=by
   have:=congrArg List.reverse hu
   simpa using this
  rw[this,j5];unfold Lib.hasSuffix List.isSuffixOf;rw[iD,b4p];show((59==x)&&true)=_;rw[jq];by_cases h:x=59
  ·subst h;rfl
  rw[decide_eq_false (by simpa using h)];simp only[beq_eq_false_iff_ne];exact fun e=>h e.symm
theorem Ti(s:Bytes):Lib.trimSuffix s [59]=ik s:=by
 unfold Lib.trimSuffix ik;rw[EM];by_cases h:s.getLast? = some 59
 ·rw[decide_eq_true h,if_pos rfl,if_pos h,m8];rfl
 rw[decide_eq_false h,if_neg (by decide),if_neg h]
theorem Tg(s:Bytes)(w:World)(h:s.length<=1024000000):bV prog 136 #[.string (bs s),.string ⟨#[59]⟩] w (.tuple #[S (ik s),.bool (decide (s.getLast? = some 59))]):=by
 have:=Ge s [59] w h;rw[EM,Ti]at this;exact this
theorem Gn(s:Bytes)(w:World)(h:s.length<=1024000000):bN prog 117 #[.string (bs s)] w (.tuple #[S ((fa s).getD []),.bool (fa s).isSome]):=by
 have hcs:=fun W=>Tg s W h;obtain⟨b,hb⟩:=az (bs s);obtain⟨c,hc⟩:=az (ik s);obtain⟨cb,hcb⟩:=az (bs c);have hfr:=fun W=>QD c W;have hbd:=fun W=>Gm c W;have hS:S c=.string cb:=by rw[hcb]
 rw[<-hb,<-hc,hS]at hcs;rw[<-hcb]at hfr hbd;rw[<-hb];cases hf:wu c with
 |some t =>
  obtain⟨tb,htb⟩:=az (bs t);have HN:=h_ (show fa s=some t by unfold fa;rw[<-hc,hf]);have HT:=h_ htb;have XS:=h_ (show ∀W,bV prog 153 #[.string cb] W (.tuple #[.string tb,.bool true])from fun W=>by have:=hfr W;rw[hf]at this;rw[htb];exact this);have Cm:=h_ hcs;clear hcs hb hc hcb hfr hbd hS hf htb;go_enter func117,ntmps117
  go_wp2_with (first
   |(go_at_call 136;refine(Cm.out _).mono ?_;rintro e w1 ⟨rfl,hw⟩;subst w1)
   |(go_at_call 153;refine(XS.out _).mono ?_;rintro e w2 ⟨rfl,hw⟩;subst w2)
   |fail)
  go_ret2
  refine⟨?_,Below.refl _ _⟩;rw[HT.out];exact r5 HN.out
 |none =>
  have XS:=h_ (show ∀W,bV prog 153 #[.string cb] W (.tuple #[.string ⟨#[]⟩,.bool false])from fun W=>by have:=hfr W;rw[hf]at this;exact this);by_cases hl:s.getLast? = some 59
  ·have HN:=h_ (show fa s=ju c by unfold fa;rw[<-hc,hf];show(if s.getLast? = some 59 then ju c else none)=_;rw[if_pos hl])
   rw[decide_eq_true hl]at hcs;obtain⟨o,ho⟩:=az (ju c);obtain⟨ob,hob⟩:=az (bs (o.getD []));obtain⟨oq,hoq⟩:=az (o.isSome);have qy:=h_ (show ∀W,bN prog 154 #[.string cb] W (.tuple #[.string ob,.bool oq])from fun W=>by rw[hob,hoq,ho];exact hbd W);have HO:=h_ (show ob=bs ((fa s).getD [])∧oq=(fa s).isSome by rw[HN.out,<-ho];exact⟨hob,hoq⟩);have Cm:=h_ hcs;clear hcs hb hc hcb hfr hbd hS hf hl ho hob hoq;go_enter func117,ntmps117
   go_wp2_with (first
    |(go_at_call 136;refine(Cm.out _).mono ?_;rintro e w1 ⟨rfl,hw⟩;subst w1)
    |(go_at_call 153;refine(XS.out _).mono ?_;rintro e w2 ⟨rfl,hw⟩;subst w2)
    |(go_at_call 154;refine(qy.out _).mono ?_;rintro e w3 ⟨rfl,hb⟩;have HB3:=h_ hb;clear hb)
    |fail)
   go_ret2
   refine⟨?_,HB3.out⟩;rw[HO.out.1,HO.out.2];rfl
  have HN:=h_ (show fa s=none by unfold fa;rw[<-hc,hf];show(if s.getLast? = some 59 then ju c else none)=_;rw[if_neg hl]);rw[decide_eq_false hl]at hcs;have Cm:=h_ hcs;clear hcs hb hc hcb hfr hbd hS hf hl;go_enter func117,ntmps117
  go_wp2_with (first
   |(go_at_call 136;refine(Cm.out _).mono ?_;rintro e w1 ⟨rfl,hw⟩;subst w1)
   |(go_at_call 153;refine(XS.out _).mono ?_;rintro e w2 ⟨rfl,hw⟩;subst w2)
   |fail)
  go_ret2
  refine⟨?_,Below.refl _ _⟩;exact xt HN.out
theorem Du(n:Int)(w:World):bN prog 152 #[.int .i64 n] w (S (gq n)):=by
 have mX:=h_ (fun(c:Int) W=>gu c W);have HSH:=h_ (fun W=>Nx n W);by_cases h:n=0
 ·subst h
  clear HSH;go_enter func152,ntmps152
  go_wp2_with (first
   |(go_at_call 45;refine(mX.out _ _).mono ?_;rintro e w1 ⟨rfl,hw⟩;subst hw)
   |fail)
  go_ret;exact⟨rfl,Below.refl _ _⟩
 have hs:gq n=enc (r6 n):=by unfold gq;rw[if_neg h]
 rw[hs];obtain⟨m,hm⟩:=az (r6 n);rw[<-hm]at HSH ⊢;clear hs hm;have hb:(n==0)=false:=by simpa using h
 go_enter func152,ntmps152
 go_wp2_with (first
  |(go_at_call 178;refine(HSH.out _).mono ?_;rintro e w1 ⟨rfl,hb1⟩;have HB1:=h_ hb1;clear hb1)
  |(go_at_call 45;refine(mX.out _ _).mono ?_;rintro e w2 ⟨rfl,hw⟩;subst w2)
  |fail)
 go_ret;exact⟨rfl,HB1.out⟩

theorem u3{c:Int}:(48<=c∧c<=57->fI c 10=c-48)∧(¬(48<=c∧c<=57)->fI c 10=-1):=by
 constructor
 ·intro h
  simp only[fI,if_pos h];rw[if_neg (by omega)]
 intro h;simp only[fI,if_neg h]
 split
 ·rw[if_pos (by omega)]
 split
 ·rw[if_pos (by omega)]
 rw[if_neg (by omega)]
theorem Gh(c base:Int)(hb:1<=base):-1<=fI c base∧fI c base<base:=by
 simp only[fI]
 split
 ·split <;>omega
 split
 ·split <;>omega
 split
 ·split <;>omega
 split <;>omega
theorem QI(x:UInt8)(w:World):bV prog 118 #[.int .u8 (b2 x)] w (.bool (zc x)):=by
 have hr:=js x;have hg:zc x=(iP (b2 x)||decide (48<=b2 x∧b2 x<=57)||decide (x=61)):=rfl
 have h61:decide (x=61)=decide (b2 x=61):=by
  rw[decide_eq_decide];constructor
  ·intro h;rw[h];rfl
  intro h;have:x.toNat=61:=by unfold b2 at h;omega
  exact fH.mp this
 rw[h61]at hg;rw[hg];clear h61 hg;obtain⟨c,hc⟩:=az (b2 x);rw[<-hc]at hr ⊢;clear hc;have hle:=fun W=>nz c W;have hdi:=fun W=>dB c 10 W ⟨by omega,by omega⟩ (by decide);cases hq:iP c with
 |true =>
  rw[hq]at hle;have jL:=h_ hle;clear hle hdi hq;go_enter func118,ntmps118
  go_wp2_with (first|(go_at_call 105;refine(jL.out _).mono ?_;rintro e w2 ⟨rfl,hw⟩;subst w2)|fail)
  go_ret;exact⟨by simp,rfl⟩
 |false =>
  rw[hq]at hle;by_cases hd:48<=c∧c<=57
  ·rw[(u3 (c:=c)).1 hd]at hdi
   obtain⟨d,hdd⟩:=az (c-48);rw[<-hdd]at hdi;have hd0:0<=d:=by omega
   have HR:=h_ (show(false||decide (48<=c∧c<=57)||decide (c=61))=true by rw[decide_eq_true hd];rfl);have jL:=h_ hle;have mj:=h_ hdi;clear hle hdi hq hd hdd;go_enter func118,ntmps118
   go_wp2_with (first
    |(go_at_call 105;refine(jL.out _).mono ?_;rintro e w2 ⟨rfl,hw⟩;subst w2)
    |(go_at_call 62;refine(mj.out _).mono ?_;rintro e w3 ⟨rfl,hw⟩;subst hw)
    |fail)
   go_ret;exact⟨by rw[HR.out];rfl,rfl⟩
  rw[(u3 (c:=c)).2 hd]at hdi;have HR:=h_ (show(false||decide (48<=c∧c<=57)||decide (c=61))=(c==61) by rw[decide_eq_false hd];by_cases h:c=61 <;>simp[h]);have jL:=h_ hle;have mj:=h_ hdi;clear hle hdi hq hd;go_enter func118,ntmps118
  go_wp2_with (first
   |(go_at_call 105;refine(jL.out _).mono ?_;rintro e w2 ⟨rfl,hw⟩;subst w2)
   |(go_at_call 62;refine(mj.out _).mono ?_;rintro e w3 ⟨rfl,hw⟩;subst hw)
   |fail)
  all_goals
   go_ret;exact⟨by rw[HR.out];simp_all,rfl⟩
theorem nF{s:Bytes}{B n:Int}{f j:Nat}(hf:f<=j)(h:kK B 0 (s.drop f)=(n,j-f)):Ei s B f=if j=f then([38],1)else(gq n,j+(if s[j]? = some 59 then 1 else 0)):=by
 unfold Ei;rw[h];dsimp only;by_cases he:j=f
 ·rw[if_pos (by omega),if_pos he]
 rw[if_neg (by omega),if_neg he,show f+(j-f)=j by omega]
theorem AJ{s:Bytes}{B n:Int}{j:Nat}(h:j<s.length):kK B n (s.drop j)=if fI (b2 s[j]) B<0 then(n,0)else((kK B (uw (n*B+fI (b2 s[j]) B)) (s.drop (j+1))).1,(kK B (uw (n*B+fI (b2 s[j]) B)) (s.drop (j+1))).2+1):=by
 rw[aq h];rfl
theorem Jm(x:UInt8):x=59 ↔ b2 x=59:=by
 constructor
 ·intro h;rw[h];rfl
 intro h;have:x.toNat=59:=by unfold b2 at h;omega
 exact fH.mp this
theorem Bn(s:Bytes)(w:World)(hs2:2<=s.length)(hL:s.length<=900000000):bN prog 116 #[.string (bs s)] w (.tuple #[S (vf s).1,.int .i64 ((vf s).2:Nat)]):=by
 have Ao:=h_ (fun(n:Int) W=>Du n W)
 have hcase:(∃h:2<s.length,s[2]=120)∨(∃h:2<s.length,s[2]=88)∨(∃h:2<s.length,s[2]≠120∧s[2]≠88)∨s.length=2:=by
  by_cases h:2<s.length
  ·by_cases h1:s[2]=120
   ·exact .inl ⟨h,h1⟩
   by_cases h2:s[2]=88
   ·exact .inr (.inl ⟨h,h2⟩)
   exact .inr (.inr (.inl ⟨h,h1,h2⟩))
  exact .inr (.inr (.inr (by omega)))
 obtain⟨b,hb⟩:=az (bs s);obtain⟨R1,QP⟩:=az ((vf s).1);obtain⟨R2,hR2⟩:=az ((vf s).2);obtain⟨L,hl⟩:=az (s.length);have hsz:b.size=L:=by rw[hb,aM,hl]
 rw[<-hb,<-QP,<-hR2];have SL:=h_ (show L=s.length∧b=bs s from⟨hl,hb⟩);have RR:=h_ (show R1=(vf s).1∧R2=(vf s).2 from⟨QP,hR2⟩);rw[<-hl]at hs2 hL;clear hb QP hR2;rcases hcase with⟨h,hx⟩|⟨h,hx⟩|⟨h,hx,hy⟩|h
 ·have h2b:2<b.size:=by omega
  have hz:=cJ SL.out.2 h2b h;rw[hx,show b2 120=120 from rfl]at hz;have HN:=h_ (show vf s=Ei s 16 3 by unfold vf;rw[if_pos (by unfold A9;rw[decide_eq_true_eq,aJ h,hx];exact .inl rfl)]);have hL3:3<=L:=by omega
  clear hx h;clear hl;go_enter func116,ntmps116
  go_wp2_with fail
  go_loopw [6,7,8] (fun nv iv _ wr=>∃ (n:Int) (j:Nat),3<=j∧j<=L∧0<=n∧n<=1114112∧nv=.int .i64 n∧iv=.int .i64 j∧Hid (kK 16 0 (s.drop 3)=((kK 16 n (s.drop j)).1,(kK 16 n (s.drop j)).2+(j-3)))∧wr=w) (fun _ i _ _=>L-(intOf i).toNat)
  case atStart=>exact⟨0,3,af _,by omega,by decide,by decide,rfl,rfl,h_ (by rw[gR];rfl),rfl⟩
  case round =>
   obtain⟨n,j,hfj,hjL,hn0,hn1,rfl,rfl,HI,rfl⟩:=hrel;by_cases hlt:j<L
   ·have hjl:j<s.length:=by have:=SL.out.1;omega
    have hjb:j<b.size:=by omega
    have hxj:=cJ SL.out.2 hjb hjl;have hst:=HI.out;rw[AJ hjl]at hst;have hdl:=Gh (b2 s[j]) 16 (by decide);have hrx:=js s[j];have hdi:=fun W=>dB (b2 s[j]) 16 W ⟨hrx.1,by omega⟩ (by decide);obtain⟨d,hd⟩:=az (fI (b2 s[j]) 16);rw[<-hd]at hst hdl hdi;by_cases hneg:d<0
    ·rw[if_pos hneg]at hst
     have mj:=h_ (show ∀W,iz prog 62 #[.int .u8 ((b[j]'hjb).toNat:Int),.int .i64 16] W (.int .i64 d)from fun W=>by rw[hxj];exact hdi W);have HR:=h_ ((HN.out).trans (nF (B:=16) (n:=n) hfj (by rw[hst];simp)));clear hst hdi hd hdl hrx HI;by_cases iV:j=3
     ·subst iV
      have HS:=h_ (show R1=[38]∧R2=1 by rw[RR.out.1,RR.out.2,HR.out];exact⟨rfl,rfl⟩);clear HR hxj
      go_wp2_with (first
       |(go_at_call 152;refine(Ao.out _ _).mono ?_;rintro e w9 ⟨rfl,hb⟩;have ka:=h_ hb;clear hb)
       |(go_at_call 62;refine(mj.out _).mono ?_;rintro e w3 ⟨rfl,hw⟩;subst hw)
       |fail)
      go_ret2
      exact⟨by rw[HS.out.1,HS.out.2];rfl,Below.refl _ _⟩
     have qjf:((j:Int)==3)=false:=by simp;omega
     have Q9:¬ (j:Int)=3:=by omega
     by_cases lJ:s[j]=59
     ·have HS:=h_ (show R1=gq n∧R2=j+1 by rw[RR.out.1,RR.out.2,HR.out,if_neg iV,aJ hjl,lJ];exact⟨rfl,rfl⟩)
      have hx:((b[j]'hjb).toNat:Int)=59:=by rw[hxj,lJ];rfl
      replace mj:=h_ (show ∀W,iz prog 62 #[.int .u8 59,.int .i64 16] W (.int .i64 d)from fun W=>by have:=mj.out W;rw[hx]at this;exact this);clear HR lJ hxj iV
      go_wp2_with (first
       |(go_at_call 152;refine(Ao.out _ _).mono ?_;rintro e w9 ⟨rfl,hb⟩;have ka:=h_ hb;clear hb)
       |(go_at_call 62;refine(mj.out _).mono ?_;rintro e w3 ⟨rfl,hw⟩;subst hw)
       |fail)
      go_ret2
      exact⟨by rw[HS.out.1,HS.out.2];rfl,ka.out⟩
     have HS:=h_ (show R1=gq n∧R2=j by rw[RR.out.1,RR.out.2,HR.out,if_neg iV,aJ hjl,if_neg (fun h=>lJ (bp h))];exact⟨rfl,rfl⟩);have Hv:(b2 s[j]==59)=false:=by simp;exact fun h=>lJ ((Jm _).2 h)
     obtain⟨z,hz⟩:=az (b2 s[j]);rw[<-hz]at Hv hxj;replace mj:=h_ (show ∀W,iz prog 62 #[.int .u8 z,.int .i64 16] W (.int .i64 d)from fun W=>by have:=mj.out W;rw[hxj]at this;exact this);clear HR lJ hz iV
     go_wp2_with (first
      |(go_at_call 152;refine(Ao.out _ _).mono ?_;rintro e w9 ⟨rfl,hb⟩;have ka:=h_ hb;clear hb)
      |(go_at_call 62;refine(mj.out _).mono ?_;rintro e w3 ⟨rfl,hw⟩;subst hw)
      |fail)
     go_ret2
     exact⟨by rw[HS.out.1,HS.out.2];rfl,ka.out⟩
    rw[if_neg hneg]at hst;dsimp only at hst;have mj:=h_ (show ∀W,iz prog 62 #[.int .u8 ((b[j]'hjb).toNat:Int),.int .i64 16] W (.int .i64 d)from fun W=>by rw[hxj];exact hdi W);obtain⟨m1,hm1⟩:=az (n*16);obtain⟨m2,hm2⟩:=az (m1+d);have hw1:IntKind.i64.wrap (n*16)=m1:=by rw[hm1];exact IntWalk.i64_in _ (by omega)
    have hw2:IntKind.i64.wrap (m1+d)=m2:=by rw[hm2];exact IntWalk.i64_in _ (by omega)
    rw[<-hm1,<-hm2]at hst;obtain⟨n2,hn2⟩:=az (uw m2);have hmin:min m2 1114112=n2:=by rw[hn2];unfold uw;split <;>omega
    have h20:0<=n2∧n2<=1114112:=by omega
    rw[<-hn2]at hst;have HI2:=h_ (show kK 16 0 (s.drop 3)=((kK 16 n2 (s.drop (j+1))).1,(kK 16 n2 (s.drop (j+1))).2+(j+1-3))from hst.trans (by rw[show j+1-3=1+(j-3) by omega,<-Nat.add_assoc]));clear hst hdi hd hdl hrx HI hxj hm1 hm2 hn2
    go_wp2_with (first
     |(go_at_call 152;refine(Ao.out _ _).mono ?_;rintro e w9 ⟨rfl,hb⟩;have ka:=h_ hb;clear hb)
     |(go_at_call 62;refine(mj.out _).mono ?_;rintro e w3 ⟨rfl,hw⟩;subst hw)
     |fail)
    go_roundw
    case rel=>exact⟨n2,j+1,by omega,by omega,h20.1,h20.2,rfl,by go_num,HI2,by trivial⟩
    case measure=>simp[intOf];omega
   obtain rfl:j=L:=by omega
   have HR:=h_ ((HN.out).trans (nF (B:=16) (n:=n) hfj (by rw[HI.out,show s.drop j=[]from by rw[SL.out.1,dJ]];simp[kK])));clear HI;by_cases iV:j=3
   ·subst iV
    have HS:=h_ (show R1=[38]∧R2=1 by rw[RR.out.1,RR.out.2,HR.out];exact⟨rfl,rfl⟩);clear HR
    go_wp2_with (first
     |(go_at_call 152;refine(Ao.out _ _).mono ?_;rintro e w9 ⟨rfl,hb⟩;have ka:=h_ hb;clear hb)
     |(go_at_call 62;refine(mj.out _).mono ?_;rintro e w3 ⟨rfl,hw⟩;subst hw)
     |fail)
    go_ret2
    exact⟨by rw[HS.out.1,HS.out.2];rfl,Below.refl _ _⟩
   have qjf:((j:Int)==3)=false:=by simp;omega
   have Q9:¬ (j:Int)=3:=by omega
   have HS:=h_ (show R1=gq n∧R2=j by rw[RR.out.1,RR.out.2,HR.out,if_neg iV,eY (by have:=SL.out.1;omega)];exact⟨rfl,rfl⟩);clear HR iV
   go_wp2_with (first
    |(go_at_call 152;refine(Ao.out _ _).mono ?_;rintro e w9 ⟨rfl,hb⟩;have ka:=h_ hb;clear hb)
    |(go_at_call 62;refine(mj.out _).mono ?_;rintro e w3 ⟨rfl,hw⟩;subst hw)
    |fail)
   go_ret2
   exact⟨by rw[HS.out.1,HS.out.2];rfl,ka.out⟩
 ·have h2b:2<b.size:=by omega
  have hz:=cJ SL.out.2 h2b h;rw[hx,show b2 88=88 from rfl]at hz;have HN:=h_ (show vf s=Ei s 16 3 by unfold vf;rw[if_pos (by unfold A9;rw[decide_eq_true_eq,aJ h,hx];exact .inr rfl)]);have hL3:3<=L:=by omega
  clear hx h;clear hl;go_enter func116,ntmps116
  go_wp2_with fail
  go_loopw [6,7,8] (fun nv iv _ wr=>∃ (n:Int) (j:Nat),3<=j∧j<=L∧0<=n∧n<=1114112∧nv=.int .i64 n∧iv=.int .i64 j∧Hid (kK 16 0 (s.drop 3)=((kK 16 n (s.drop j)).1,(kK 16 n (s.drop j)).2+(j-3)))∧wr=w) (fun _ i _ _=>L-(intOf i).toNat)
  case atStart=>exact⟨0,3,af _,by omega,by decide,by decide,rfl,rfl,h_ (by rw[gR];rfl),rfl⟩
  case round =>
   obtain⟨n,j,hfj,hjL,hn0,hn1,rfl,rfl,HI,rfl⟩:=hrel;by_cases hlt:j<L
   ·have hjl:j<s.length:=by have:=SL.out.1;omega
    have hjb:j<b.size:=by omega
    have hxj:=cJ SL.out.2 hjb hjl;have hst:=HI.out;rw[AJ hjl]at hst;have hdl:=Gh (b2 s[j]) 16 (by decide);have hrx:=js s[j];have hdi:=fun W=>dB (b2 s[j]) 16 W ⟨hrx.1,by omega⟩ (by decide);obtain⟨d,hd⟩:=az (fI (b2 s[j]) 16);rw[<-hd]at hst hdl hdi;by_cases hneg:d<0
    ·rw[if_pos hneg]at hst
     have mj:=h_ (show ∀W,iz prog 62 #[.int .u8 ((b[j]'hjb).toNat:Int),.int .i64 16] W (.int .i64 d)from fun W=>by rw[hxj];exact hdi W);have HR:=h_ ((HN.out).trans (nF (B:=16) (n:=n) hfj (by rw[hst];simp)));clear hst hdi hd hdl hrx HI;by_cases iV:j=3
     ·subst iV
      have HS:=h_ (show R1=[38]∧R2=1 by rw[RR.out.1,RR.out.2,HR.out];exact⟨rfl,rfl⟩);clear HR hxj
      go_wp2_with (first
       |(go_at_call 152;refine(Ao.out _ _).mono ?_;rintro e w9 ⟨rfl,hb⟩;have ka:=h_ hb;clear hb)
       |(go_at_call 62;refine(mj.out _).mono ?_;rintro e w3 ⟨rfl,hw⟩;subst hw)
       |fail)
      go_ret2
      exact⟨by rw[HS.out.1,HS.out.2];rfl,Below.refl _ _⟩
     have qjf:((j:Int)==3)=false:=by simp;omega
     have Q9:¬ (j:Int)=3:=by omega
     by_cases lJ:s[j]=59
     ·have HS:=h_ (show R1=gq n∧R2=j+1 by rw[RR.out.1,RR.out.2,HR.out,if_neg iV,aJ hjl,lJ];exact⟨rfl,rfl⟩)
      have hx:((b[j]'hjb).toNat:Int)=59:=by rw[hxj,lJ];rfl
      replace mj:=h_ (show ∀W,iz prog 62 #[.int .u8 59,.int .i64 16] W (.int .i64 d)from fun W=>by have:=mj.out W;rw[hx]at this;exact this);clear HR lJ hxj iV
      go_wp2_with (first
       |(go_at_call 152;refine(Ao.out _ _).mono ?_;rintro e w9 ⟨rfl,hb⟩;have ka:=h_ hb;clear hb)
       |(go_at_call 62;refine(mj.out _).mono ?_;rintro e w3 ⟨rfl,hw⟩;subst hw)
       |fail)
      go_ret2
      exact⟨by rw[HS.out.1,HS.out.2];rfl,ka.out⟩
     have HS:=h_ (show R1=gq n∧R2=j by rw[RR.out.1,RR.out.2,HR.out,if_neg iV,aJ hjl,if_neg (fun h=>lJ (bp h))];exact⟨rfl,rfl⟩);have Hv:(b2 s[j]==59)=false:=by simp;exact fun h=>lJ ((Jm _).2 h)
     obtain⟨z,hz⟩:=az (b2 s[j]);rw[<-hz]at Hv hxj;replace mj:=h_ (show ∀W,iz prog 62 #[.int .u8 z,.int .i64 16] W (.int .i64 d)from fun W=>by have:=mj.out W;rw[hxj]at this;exact this);clear HR lJ hz iV
     go_wp2_with (first
      |(go_at_call 152;refine(Ao.out _ _).mono ?_;rintro e w9 ⟨rfl,hb⟩;have ka:=h_ hb;clear hb)
      |(go_at_call 62;refine(mj.out _).mono ?_;rintro e w3 ⟨rfl,hw⟩;subst hw)
      |fail)
     go_ret2
     exact⟨by rw[HS.out.1,HS.out.2];rfl,ka.out⟩
    rw[if_neg hneg]at hst;dsimp only at hst;have mj:=h_ (show ∀W,iz prog 62 #[.int .u8 ((b[j]'hjb).toNat:Int),.int .i64 16] W (.int .i64 d)from fun W=>by rw[hxj];exact hdi W);obtain⟨m1,hm1⟩:=az (n*16);obtain⟨m2,hm2⟩:=az (m1+d);have hw1:IntKind.i64.wrap (n*16)=m1:=by rw[hm1];exact IntWalk.i64_in _ (by omega)
    have hw2:IntKind.i64.wrap (m1+d)=m2:=by rw[hm2];exact IntWalk.i64_in _ (by omega)
    rw[<-hm1,<-hm2]at hst;obtain⟨n2,hn2⟩:=az (uw m2);have hmin:min m2 1114112=n2:=by rw[hn2];unfold uw;split <;>omega
    have h20:0<=n2∧n2<=1114112:=by omega
    rw[<-hn2]at hst;have HI2:=h_ (show kK 16 0 (s.drop 3)=((kK 16 n2 (s.drop (j+1))).1,(kK 16 n2 (s.drop (j+1))).2+(j+1-3))from hst.trans (by rw[show j+1-3=1+(j-3) by omega,<-Nat.add_assoc]));clear hst hdi hd hdl hrx HI hxj hm1 hm2 hn2
    go_wp2_with (first
     |(go_at_call 152;refine(Ao.out _ _).mono ?_;rintro e w9 ⟨rfl,hb⟩;have ka:=h_ hb;clear hb)
     |(go_at_call 62;refine(mj.out _).mono ?_;rintro e w3 ⟨rfl,hw⟩;subst hw)
     |fail)
    go_roundw
    case rel=>exact⟨n2,j+1,by omega,by omega,h20.1,h20.2,rfl,by go_num,HI2,by trivial⟩
    case measure=>simp[intOf];omega
   obtain rfl:j=L:=by omega
   have HR:=h_ ((HN.out).trans (nF (B:=16) (n:=n) hfj (by rw[HI.out,show s.drop j=[]from by rw[SL.out.1,dJ]];simp[kK])));clear HI;by_cases iV:j=3
   ·subst iV
    have HS:=h_ (show R1=[38]∧R2=1 by rw[RR.out.1,RR.out.2,HR.out];exact⟨rfl,rfl⟩);clear HR
    go_wp2_with (first
     |(go_at_call 152;refine(Ao.out _ _).mono ?_;rintro e w9 ⟨rfl,hb⟩;have ka:=h_ hb;clear hb)
     |(go_at_call 62;refine(mj.out _).mono ?_;rintro e w3 ⟨rfl,hw⟩;subst hw)
     |fail)
    go_ret2
    exact⟨by rw[HS.out.1,HS.out.2];rfl,Below.refl _ _⟩
   have qjf:((j:Int)==3)=false:=by simp;omega
   have Q9:¬ (j:Int)=3:=by omega
   have HS:=h_ (show R1=gq n∧R2=j by rw[RR.out.1,RR.out.2,HR.out,if_neg iV,eY (by have:=SL.out.1;omega)];exact⟨rfl,rfl⟩);clear HR iV
   go_wp2_with (first
    |(go_at_call 152;refine(Ao.out _ _).mono ?_;rintro e w9 ⟨rfl,hb⟩;have ka:=h_ hb;clear hb)
    |(go_at_call 62;refine(mj.out _).mono ?_;rintro e w3 ⟨rfl,hw⟩;subst hw)
    |fail)
   go_ret2
   exact⟨by rw[HS.out.1,HS.out.2];rfl,ka.out⟩
 ·have h2b:2<b.size:=by omega
  have hz:=cJ SL.out.2 h2b h;have a92:(b2 s[2]==120)=false:=by simp;exact fun e=>hx (fH.mp (by unfold b2 at e;show s[2].toNat=120;omega))
  have q88:(b2 s[2]==88)=false:=by simp;exact fun e=>hy (fH.mp (by unfold b2 at e;show s[2].toNat=88;omega))
  have HN:=h_ (show vf s=Ei s 10 2 by unfold vf;rw[if_neg (by unfold A9;rw[decide_eq_true_eq,aJ h];exact fun e=>e.elim (fun e=>hx (bp e)) (fun e=>hy (bp e)))]);have hL2:2<L:=by omega
  obtain⟨Z,hZ⟩:=az (b2 s[2]);rw[<-hZ]at hz a92 q88;clear hx hy h hZ;clear hl;go_enter func116,ntmps116
  go_wp2_with fail
  go_loopw [6,7,8] (fun nv iv _ wr=>∃ (n:Int) (j:Nat),2<=j∧j<=L∧0<=n∧n<=1114112∧nv=.int .i64 n∧iv=.int .i64 j∧Hid (kK 10 0 (s.drop 2)=((kK 10 n (s.drop j)).1,(kK 10 n (s.drop j)).2+(j-2)))∧wr=w) (fun _ i _ _=>L-(intOf i).toNat)
  case atStart=>exact⟨0,2,af _,by omega,by decide,by decide,rfl,rfl,h_ (by rw[gR];rfl),rfl⟩
  case round =>
   obtain⟨n,j,hfj,hjL,hn0,hn1,rfl,rfl,HI,rfl⟩:=hrel;by_cases hlt:j<L
   ·have hjl:j<s.length:=by have:=SL.out.1;omega
    have hjb:j<b.size:=by omega
    have hxj:=cJ SL.out.2 hjb hjl;have hst:=HI.out;rw[AJ hjl]at hst;have hdl:=Gh (b2 s[j]) 10 (by decide);have hrx:=js s[j];have hdi:=fun W=>dB (b2 s[j]) 10 W ⟨hrx.1,by omega⟩ (by decide);obtain⟨d,hd⟩:=az (fI (b2 s[j]) 10);rw[<-hd]at hst hdl hdi;by_cases hneg:d<0
    ·rw[if_pos hneg]at hst
     have mj:=h_ (show ∀W,iz prog 62 #[.int .u8 ((b[j]'hjb).toNat:Int),.int .i64 10] W (.int .i64 d)from fun W=>by rw[hxj];exact hdi W);have HR:=h_ ((HN.out).trans (nF (B:=10) (n:=n) hfj (by rw[hst];simp)));clear hst hdi hd hdl hrx HI;by_cases iV:j=2
     ·subst iV
      have HS:=h_ (show R1=[38]∧R2=1 by rw[RR.out.1,RR.out.2,HR.out];exact⟨rfl,rfl⟩);clear HR hxj;replace mj:=h_ (show ∀W,iz prog 62 #[.int .u8 Z,.int .i64 10] W (.int .i64 d)from fun W=>by have:=mj.out W;rw[hz]at this;exact this)
      go_wp2_with (first
       |(go_at_call 152;refine(Ao.out _ _).mono ?_;rintro e w9 ⟨rfl,hb⟩;have ka:=h_ hb;clear hb)
       |(go_at_call 62;refine(mj.out _).mono ?_;rintro e w3 ⟨rfl,hw⟩;subst hw)
       |fail)
      go_ret2
      exact⟨by rw[HS.out.1,HS.out.2];rfl,Below.refl _ _⟩
     have qjf:((j:Int)==2)=false:=by simp;omega
     have Q9:¬ (j:Int)=2:=by omega
     by_cases lJ:s[j]=59
     ·have HS:=h_ (show R1=gq n∧R2=j+1 by rw[RR.out.1,RR.out.2,HR.out,if_neg iV,aJ hjl,lJ];exact⟨rfl,rfl⟩)
      have hx:((b[j]'hjb).toNat:Int)=59:=by rw[hxj,lJ];rfl
      replace mj:=h_ (show ∀W,iz prog 62 #[.int .u8 59,.int .i64 10] W (.int .i64 d)from fun W=>by have:=mj.out W;rw[hx]at this;exact this);clear HR lJ hxj iV
      go_wp2_with (first
       |(go_at_call 152;refine(Ao.out _ _).mono ?_;rintro e w9 ⟨rfl,hb⟩;have ka:=h_ hb;clear hb)
       |(go_at_call 62;refine(mj.out _).mono ?_;rintro e w3 ⟨rfl,hw⟩;subst hw)
       |fail)
      go_ret2
      exact⟨by rw[HS.out.1,HS.out.2];rfl,ka.out⟩
     have HS:=h_ (show R1=gq n∧R2=j by rw[RR.out.1,RR.out.2,HR.out,if_neg iV,aJ hjl,if_neg (fun h=>lJ (bp h))];exact⟨rfl,rfl⟩);have Hv:(b2 s[j]==59)=false:=by simp;exact fun h=>lJ ((Jm _).2 h)
     obtain⟨z,hz⟩:=az (b2 s[j]);rw[<-hz]at Hv hxj;replace mj:=h_ (show ∀W,iz prog 62 #[.int .u8 z,.int .i64 10] W (.int .i64 d)from fun W=>by have:=mj.out W;rw[hxj]at this;exact this);clear HR lJ hz iV
     go_wp2_with (first
      |(go_at_call 152;refine(Ao.out _ _).mono ?_;rintro e w9 ⟨rfl,hb⟩;have ka:=h_ hb;clear hb)
      |(go_at_call 62;refine(mj.out _).mono ?_;rintro e w3 ⟨rfl,hw⟩;subst hw)
      |fail)
     go_ret2
     exact⟨by rw[HS.out.1,HS.out.2];rfl,ka.out⟩
    rw[if_neg hneg]at hst;dsimp only at hst;have mj:=h_ (show ∀W,iz prog 62 #[.int .u8 ((b[j]'hjb).toNat:Int),.int .i64 10] W (.int .i64 d)from fun W=>by rw[hxj];exact hdi W);obtain⟨m1,hm1⟩:=az (n*10);obtain⟨m2,hm2⟩:=az (m1+d);have hw1:IntKind.i64.wrap (n*10)=m1:=by rw[hm1];exact IntWalk.i64_in _ (by omega)
    have hw2:IntKind.i64.wrap (m1+d)=m2:=by rw[hm2];exact IntWalk.i64_in _ (by omega)
    rw[<-hm1,<-hm2]at hst;obtain⟨n2,hn2⟩:=az (uw m2);have hmin:min m2 1114112=n2:=by rw[hn2];unfold uw;split <;>omega
    have h20:0<=n2∧n2<=1114112:=by omega
    rw[<-hn2]at hst;have HI2:=h_ (show kK 10 0 (s.drop 2)=((kK 10 n2 (s.drop (j+1))).1,(kK 10 n2 (s.drop (j+1))).2+(j+1-2))from hst.trans (by rw[show j+1-2=1+(j-2) by omega,<-Nat.add_assoc]));clear hst hdi hd hdl hrx HI hxj hm1 hm2 hn2
    go_wp2_with (first
     |(go_at_call 152;refine(Ao.out _ _).mono ?_;rintro e w9 ⟨rfl,hb⟩;have ka:=h_ hb;clear hb)
     |(go_at_call 62;refine(mj.out _).mono ?_;rintro e w3 ⟨rfl,hw⟩;subst hw)
     |fail)
    go_roundw
    case rel=>exact⟨n2,j+1,by omega,by omega,h20.1,h20.2,rfl,by go_num,HI2,by trivial⟩
    case measure=>simp[intOf];omega
   obtain rfl:j=L:=by omega
   have HR:=h_ ((HN.out).trans (nF (B:=10) (n:=n) hfj (by rw[HI.out,show s.drop j=[]from by rw[SL.out.1,dJ]];simp[kK])));clear HI;by_cases iV:j=2
   ·subst iV
    have HS:=h_ (show R1=[38]∧R2=1 by rw[RR.out.1,RR.out.2,HR.out];exact⟨rfl,rfl⟩);clear HR
    go_wp2_with (first
     |(go_at_call 152;refine(Ao.out _ _).mono ?_;rintro e w9 ⟨rfl,hb⟩;have ka:=h_ hb;clear hb)
     |(go_at_call 62;refine(mj.out _).mono ?_;rintro e w3 ⟨rfl,hw⟩;subst hw)
     |fail)
    go_ret2
    exact⟨by rw[HS.out.1,HS.out.2];rfl,Below.refl _ _⟩
   have qjf:((j:Int)==2)=false:=by simp;omega
   have Q9:¬ (j:Int)=2:=by omega
   have HS:=h_ (show R1=gq n∧R2=j by rw[RR.out.1,RR.out.2,HR.out,if_neg iV,eY (by have:=SL.out.1;omega)];exact⟨rfl,rfl⟩);clear HR iV
   go_wp2_with (first
    |(go_at_call 152;refine(Ao.out _ _).mono ?_;rintro e w9 ⟨rfl,hb⟩;have ka:=h_ hb;clear hb)
    |(go_at_call 62;refine(mj.out _).mono ?_;rintro e w3 ⟨rfl,hw⟩;subst hw)
    |fail)
   go_ret2
   exact⟨by rw[HS.out.1,HS.out.2];rfl,ka.out⟩
 have HN:=h_ (show vf s=Ei s 10 2 by unfold vf;rw[if_neg (by unfold A9;rw[decide_eq_true_eq,eY (by omega)];rintro(e|e) <;>cases e)]);have hL2:¬ 2<L:=by omega
 clear h;clear hl;go_enter func116,ntmps116
 go_wp2_with fail
 go_loopw [6,7,8] (fun nv iv _ wr=>∃ (n:Int) (j:Nat),2<=j∧j<=L∧0<=n∧n<=1114112∧nv=.int .i64 n∧iv=.int .i64 j∧Hid (kK 10 0 (s.drop 2)=((kK 10 n (s.drop j)).1,(kK 10 n (s.drop j)).2+(j-2)))∧wr=w) (fun _ i _ _=>L-(intOf i).toNat)
 case atStart=>exact⟨0,2,af _,by omega,by decide,by decide,rfl,rfl,h_ (by rw[gR];rfl),rfl⟩
 case round =>
  obtain⟨n,j,hfj,hjL,hn0,hn1,rfl,rfl,HI,rfl⟩:=hrel;by_cases hlt:j<L
  ·omega
  obtain rfl:j=L:=by omega
  have HR:=h_ ((HN.out).trans (nF (B:=10) (n:=n) hfj (by rw[HI.out,show s.drop j=[]from by rw[SL.out.1,dJ]];simp[kK])));clear HI;by_cases iV:j=2
  ·subst iV
   have HS:=h_ (show R1=[38]∧R2=1 by rw[RR.out.1,RR.out.2,HR.out];exact⟨rfl,rfl⟩);clear HR
   go_wp2_with (first
    |(go_at_call 152;refine(Ao.out _ _).mono ?_;rintro e w9 ⟨rfl,hb⟩;have ka:=h_ hb;clear hb)
    |(go_at_call 62;refine(mj.out _).mono ?_;rintro e w3 ⟨rfl,hw⟩;subst hw)
    |fail)
   go_ret2
   exact⟨by rw[HS.out.1,HS.out.2];rfl,Below.refl _ _⟩
  omega

theorem Hz{s:Bytes}{n:Nat}(h:fa ((s.drop 1).take (n+1))=none):iR s (n+1)=iR s n:=by rw[iR,h]
theorem H9{s t:Bytes}{n:Nat}(h:fa ((s.drop 1).take (n+1))=some t):iR s (n+1)=if Sv s (n+1)=true then([38],1)else(t,n+2):=by rw[iR,h]
theorem Sw{s:Bytes}{n:Nat}(h:n<s.length)(e:s[n]=59):Sv s n=false:=by
 unfold Sv;rw[aJ h,e];rfl
theorem WL{s:Bytes}{n:Nat}(h:s.length<=n+1):Sv s n=false:=by
 unfold Sv;rw[eY (i:=n+1) h];exact Bool.and_false _
theorem a1d{s:Bytes}{n:Nat}(h:n+1<s.length)(e:s[n]≠59):Sv s n=zc s[n+1]:=by
 unfold Sv;rw[aJ (show n<s.length by omega),aJ h,decide_eq_true (p:=some s[n]≠some 59) (fun x=>e (bp x)),kU]
theorem yB(s:Bytes)(w:World)(h1:1<=s.length)(hL:s.length<=900000000):bN prog 82 #[.string (bs s)] w (.tuple #[S (gG s).1,.int .i64 ((gG s).2:Nat)]):=by
 have hpa:=fun W=>oO s [38,35] W;by_cases hp:Lib.hasPrefix s [38,35]=true
 ·have h2:2<=s.length:=by
   unfold Lib.hasPrefix at hp;have:=(dD.mp hp).length_le
   simpa using this
  have hnb:=fun W=>Bn s W h2 hL;rw[show gG s=vf s by unfold gG;rw[if_pos hp]];rw[hp]at hpa;obtain⟨R1,QP⟩:=az ((vf s).1);obtain⟨R2,hR2⟩:=az ((vf s).2);obtain⟨b,hb⟩:=az (bs s);rw[<-QP,<-hR2,<-hb]at hnb;rw[<-QP,<-hR2,<-hb];rw[<-hb]at hpa;have HP:=h_ (show ∀W,bV prog 57 #[.string b,.string ⟨#[38,35]⟩] W (.bool true)from hpa);have UP:=h_ hnb;clear hpa hnb QP hR2 hb hp;go_enter func82,ntmps82
  go_wp2_with (first
   |(go_at_call 57;refine(HP.out _).mono ?_;rintro e w1 ⟨rfl,hw⟩;subst w1)
   |(go_at_call 116;refine(UP.out _).mono ?_;rintro e w2 ⟨rfl,hb⟩;have HB2:=h_ hb;clear hb)
   |fail)
  go_ret2
  exact⟨rfl,HB2.out⟩
 have hpf:Lib.hasPrefix s [38,35]=false:=by simpa using hp
 rw[hpf]at hpa;have hrf:gG s=iR s (min 15 (s.length-1)):=by unfold gG;rw[if_neg hp]
 obtain⟨R1,QP⟩:=az ((gG s).1);obtain⟨R2,hR2⟩:=az ((gG s).2);obtain⟨b,hb⟩:=az (bs s);obtain⟨L,hl⟩:=az (s.length);have hsz:b.size=L:=by rw[hb,aM,hl]
 obtain⟨m0,hm0⟩:=az (min 15 (L-1));have hmi:IntKind.i64.wrap ((L:Int)-1)=((L-1:Nat):Int):=by rw[show(L:Int)-1=((L-1:Nat):Int) by omega];exact IntWalk.i64_in _ (by omega)
 obtain⟨L1,hL1⟩:∃ x:Nat,x=L-1:=⟨_,rfl⟩;rw[<-hL1]at hmi hm0;have hmin:min 15 (L1:Int)=(m0:Int):=by omega
 have hmL:m0<=L1:=by omega
 rw[<-QP,<-hR2,<-hb];rw[<-hb]at hpa;have HP:=h_ (show ∀W,bV prog 57 #[.string b,.string ⟨#[38,35]⟩] W (.bool false)from hpa);have HR:=h_ (show gG s=iR s m0 by rw[hrf,hm0,hL1,hl]);have RR:=h_ (show R1=(gG s).1∧R2=(gG s).2 from⟨QP,hR2⟩);have SL:=h_ (show L=s.length∧b=bs s from⟨hl,hb⟩);have UM:=h_ (show L1+1=L by omega);rw[<-hl]at hL;clear hpa QP hR2 hb hp hpf hrf hl hm0 hL1 h1;go_enter func82,ntmps82
 go_wp2_with (first
  |(go_at_call 57;refine(HP.out _).mono ?_;rintro e w1 ⟨rfl,hw⟩;subst w1)
  |fail)
 clear hmi hmin
 go_loopw [4,5,6] (fun iv _ _ wr=>∃ n:Nat,n<=L1∧iv=.int .i64 n∧Hid (gG s=iR s n)∧Hid (Below w.heap.size w wr)) (fun i _ _ _=>(intOf i).toNat)
 case atStart=>exact⟨m0,hmL,rfl,HR,h_ (Below.refl _ _)⟩
 case round =>
  obtain⟨n,hn,rfl,HG,HB⟩:=hrel;by_cases hn0:n=0
  ·subst hn0
   have HS:=h_ (show R1=[38]∧R2=1 by rw[RR.out.1,RR.out.2,HG.out];exact⟨rfl,rfl⟩)
   go_wp2_with fail
   go_ret2
   exact⟨by rw[HS.out.1,HS.out.2];rfl,HB.out⟩
  obtain⟨m,hm⟩:∃ m,n=m+1:=⟨n-1,by omega⟩;have hnp:0<n:=by omega
  have hnL:n<L:=by have:=UM.out;omega
  obtain⟨n1,hn1⟩:∃ x:Nat,x=n+1:=⟨_,rfl⟩;have hw1:IntKind.i64.wrap ((n:Int)+1)=(n1:Int):=by rw[show(n:Int)+1=(n1:Int) by omega];exact IntWalk.i64_in _ (by omega)
  have b3L:1<=n1:=by omega
  have b3M:n1<=L:=by omega
  obtain⟨tb,htb⟩:=az (bs ((s.drop 1).take n));have hex:b.extract 1 n1=tb:=by rw[SL.out.2,bX,htb,hn1];rfl
  have hnm:=fun W=>Gn ((s.drop 1).take n) W (by rw[aE];have:=SL.out.1;omega);rw[<-htb]at hnm;cases hf:fa ((s.drop 1).take n)with
  |none =>
   rw[hf]at hnm;have om:=h_ (show ∀W,bN prog 117 #[.string tb] W (.tuple #[.string ⟨#[]⟩,.bool false])from hnm);have HG2:=h_ (show gG s=iR s m by rw[HG.out,hm];exact Hz (by rw[<-hm];exact hf));have hw2:IntKind.i64.wrap ((n:Int)-1)=(m:Int):=by rw[show(n:Int)-1=(m:Int) by omega];exact IntWalk.i64_in _ (by omega)
   have a9A:m<=L1:=by omega
   have HM:=h_ (show m<n by omega);clear hnm htb hf hm hn1 hn0
   go_wp2_with (first
    |(go_at_call 117;refine(om.out _).mono ?_;rintro e w2 ⟨rfl,hb⟩;have HB2:=h_ (HB.out.trans (hb.mono HB.out.size));clear hb)
    |fail)
   go_roundw
   case rel=>exact⟨m,a9A,rfl,HG2,HB2⟩
   case measure=>have:=HM.out;simp[intOf];omega
  |some t =>
   rw[hf]at hnm;obtain⟨tt,Fv⟩:=az (bs t);have om:=h_ (show ∀W,bN prog 117 #[.string tb] W (.tuple #[.string tt,.bool true])from fun W=>by rw[Fv];exact hnm W);have hg:=HG.out;rw[hm,H9 (by rw[<-hm];exact hf),<-hm,show m+2=n1 by omega]at hg;have TT:=h_ Fv;have hsl:n<s.length:=by have:=SL.out.1;omega
   have hbl:n<b.size:=by omega
   have hx:=cJ SL.out.2 hbl hsl;by_cases lJ:s[n]=59
   ·rw[Sw hsl lJ,if_neg (by decide)]at hg
    have HS:=h_ (show R1=t∧R2=n1 by rw[RR.out.1,RR.out.2,hg];exact⟨rfl,rfl⟩);rw[lJ,show b2 59=59 from rfl]at hx;clear hnm htb hf hm hn1 hn0 Fv hg lJ
    go_wp2_with (first
     |(go_at_call 117;refine(om.out _).mono ?_;rintro e w2 ⟨rfl,hb⟩;have HB2:=h_ (HB.out.trans (hb.mono HB.out.size));clear hb)
     |fail)
    go_ret2
    exact⟨by rw[HS.out.1,HS.out.2,TT.out];rfl,HB2.out⟩
   have Hv:(b2 s[n]==59)=false:=by simp;exact fun h=>lJ ((Jm _).2 h)
   obtain⟨z,hz⟩:=az (b2 s[n]);rw[<-hz]at Hv hx;have b3h:¬ z=59:=by simpa using Hv
   by_cases hlast:n1<L
   ·have hsl1:n1<s.length:=by have:=SL.out.1;omega
    have a9e:n1<b.size:=by omega
    have hx1:=cJ SL.out.2 a9e hsl1
    have hon:Sv s n=zc s[n1]:=by
     have:=a1d (s:=s) (n:=n) (by omega) lJ;rw[this]
     congr 1
     exact getElem_congr rfl hn1.symm _
    rw[hon]at hg;have hgo:=fun W=>QI s[n1] W;obtain⟨y,hy⟩:=az (b2 s[n1]);rw[<-hy]at hx1 hgo;cases hq:zc s[n1]with
    |true =>
     rw[hq]at hg hgo;have HGO:=h_ hgo;have HS:=h_ (show R1=[38]∧R2=1 by rw[RR.out.1,RR.out.2,hg];exact⟨rfl,rfl⟩);clear hnm htb hf hm hn1 hn0 Fv hg lJ hz hon hgo hq hy
     go_wp2_with (first
      |(go_at_call 117;refine(om.out _).mono ?_;rintro e w2 ⟨rfl,hb⟩;have HB2:=h_ (HB.out.trans (hb.mono HB.out.size));clear hb)
      |(go_at_call 118;refine(HGO.out _).mono ?_;rintro e w3 ⟨rfl,hw⟩;subst w3)
      |fail)
     go_ret2
     exact⟨by rw[HS.out.1,HS.out.2];rfl,HB2.out⟩
    |false =>
     rw[hq]at hg hgo;have HGO:=h_ hgo;have HS:=h_ (show R1=t∧R2=n1 by rw[RR.out.1,RR.out.2,hg];exact⟨rfl,rfl⟩);clear hnm htb hf hm hn1 hn0 Fv hg lJ hz hon hgo hq hy
     go_wp2_with (first
      |(go_at_call 117;refine(om.out _).mono ?_;rintro e w2 ⟨rfl,hb⟩;have HB2:=h_ (HB.out.trans (hb.mono HB.out.size));clear hb)
      |(go_at_call 118;refine(HGO.out _).mono ?_;rintro e w3 ⟨rfl,hw⟩;subst w3)
      |fail)
     go_ret2
     exact⟨by rw[HS.out.1,HS.out.2,TT.out];rfl,HB2.out⟩
   rw[WL (by have:=SL.out.1;omega),if_neg (by decide)]at hg;have HS:=h_ (show R1=t∧R2=n1 by rw[RR.out.1,RR.out.2,hg];exact⟨rfl,rfl⟩);have a9x:¬ (n1:Int)<L:=by omega
   clear hnm htb hf hm hn1 hn0 Fv hg lJ hz
   go_wp2_with (first
    |(go_at_call 117;refine(om.out _).mono ?_;rintro e w2 ⟨rfl,hb⟩;have HB2:=h_ (HB.out.trans (hb.mono HB.out.size));clear hb)
    |fail)
   go_ret2
   exact⟨by rw[HS.out.1,HS.out.2,TT.out];rfl,HB2.out⟩

theorem RG:∀ r:Bytes,(r.dropWhile na=[]->Lib.indexByte r 38=-1)∧(r.dropWhile na ≠ []->Lib.indexByte r 38=((r.takeWhile na).length:Nat))
 | []=>⟨fun _=>rfl,fun h=>absurd rfl h⟩
 |y::l=>by
  have ih:=RG l;unfold Lib.indexByte;by_cases h:y=38
  ·subst h
   rw[bn (by decide),aX (by decide)];exact And.intro (fun e=>absurd e (by simp)) (fun _=>rfl)
  have h1:(y==38)=false:=by simpa using h
  have h2:na y=true:=by unfold na;simpa using h
  rw[aU h2,aY h2,h1];constructor
  ·intro e;rw[ih.1 e];rfl
  intro e;rw[ih.2 e];have:((((l.takeWhile na).length:Nat):Int) == -1)=false:=by simp
  rw[this];simp
theorem a90(l:Bytes)(W:World):bV prog 81 #[.string (bs l),.int .u8 38] W (.int .i64 (Lib.indexByte l 38)):=by
 have h:=Any.strings_IndexByte laysIB (bs l) 38 W;rw[show(bs l).data.toList=l from dR l]at h;exact h
theorem tO(s:Bytes)(w:World)(hL:s.length<=900000000):bN prog 46 #[.string (bs s)] w (S (jl s)):=by
 obtain⟨b,hb⟩:=az (bs s);have hel:=u5 s.length s (af _);obtain⟨T,hT⟩:=az (jl s);rw[<-hT]at hel ⊢;have HT:=h_ (show T.length<=5400000000 by omega);have HI:=h_ (show T=[]++jl s from hT);have HLs:=h_ hL;rw[<-hb];have HB0:=h_ hb;clear hel hT hL hb;go_enter func46,ntmps46
 go_wp2_with fail
 go_loopw [0,4,5,6] (fun sv _ _ _ wr=>∃ rb:ByteArray,sv=.string rb∧Hid (∃r o:Bytes,rb=bs r∧r.length<=900000000∧T=o++jl r∧Hb w o wr)) (fun sv _ _ _ _=>G6 sv)
 case atStart=>exact⟨b,rfl,h_ ⟨s,[],HB0.out,HLs.out,HI.out,Hb.fresh w⟩⟩
 case round =>
  obtain⟨rb,rfl,HR⟩:=hrel;obtain⟨r,o,hrb,hrl,hTo,hbd⟩:=HR.out;clear HR;have hol:o.length<=5400000000:=by have:=HT.out;have h2:=congrArg List.length hTo;rw[ae]at h2;omega
  have qy:=h_ hbd;have HO:=h_ hol;clear hbd hol;by_cases hr0:r=[]
  ·have HE:=h_ (show T=o by rw[hTo,hr0,JD,aG])
   have e1:rb.toList.isEmpty=true:=by rw[hrb,hr0,ay];rfl
   have e2:rb.toList=[]:=by rw[hrb,hr0,ay]
   clear hTo hr0 hrb hrl
   go_wp2_with (first
    |(go_at_call 52;refine(Hb.str qy.out).mono ?_;rintro e w2 ⟨rfl,hb2⟩;have HB2:=h_ hb2;clear hb2)
    |fail)
   go_ret;exact⟨by rw[HE.out];rfl,HB2.out⟩
  have e1:rb.toList.isEmpty=false:=by rw[hrb,ay];simpa using hr0
  have e2:¬ rb.toList=[]:=by rw[hrb,ay];exact hr0
  have hix:=fun W=>a90 r W;rw[<-hrb]at hix;have mZ:=RG r;have heq:=AQ r;obtain⟨A,hA⟩:=az (r.takeWhile na);obtain⟨D,hD⟩:=az (r.dropWhile na);have hAD:r=A++D:=by rw[hA,hD,eT]
  rw[<-hA,<-hD]at mZ heq;by_cases hd:D=[]
  ·rw[mZ.1 hd]at hix
   rw[if_pos hd,aG]at heq;have hrA:r=A:=by rw[hAD,hd,aG]
   have HE:=h_ (show T=o++r by rw[hTo,heq,<-hrA]);have XU:=h_ hix;have uK:=h_ hrb;have US:=h_ hrl;have hsr:S r=.string rb:=by rw[hrb]
   have HWS:=h_ (fun(W:World) (h:Hb w o W)=>Hb.ws r h (by have:=HO.out;have:=US.out;omega));rw[hsr]at HWS;clear hix mZ heq hrA hrb hrl hsr hAD hA hD hd hTo hr0
   go_wp2_with (first
    |(go_at_call 81;refine(XU.out _).mono ?_;rintro e w2 ⟨rfl,hw⟩;subst w2)
    |(go_at_call 49;refine(HWS.out _ qy.out).mono ?_;rintro e w3 ⟨rfl,rK⟩;have mr:=h_ rK;clear rK)
    |(go_at_call 52;refine(Hb.str mr.out).mono ?_;rintro e w4 ⟨rfl,hb2⟩;have HB2:=h_ hb2;clear hb2)
    |fail)
   go_ret;exact⟨by rw[HE.out];rfl,HB2.out⟩
  rw[mZ.2 hd]at hix;rw[if_neg hd]at heq
  have hdl:1<=D.length:=by cases hD':D with
   |nil=>exact absurd hD' hd
   |cons x l=>rw[ag];omega
  have hlen:r.length=A.length+D.length:=by rw[hAD,ae]
  have hrn:=xr hdl;have hrf:=Ex D;have href:=fun W=>yB D W hdl (by omega);obtain⟨t,ht⟩:=az ((gG D).1);obtain⟨n,hn⟩:=az ((gG D).2);rw[<-ht,<-hn]at heq href;rw[<-hn]at hrn;rw[<-ht]at hrf;obtain⟨i,hi⟩:=az (A.length);obtain⟨N,hN⟩:=az (rb.size);have hsz:rb.size=N:=hN.symm;have hNr:N=r.length:=by rw[hN,hrb,aM]
  obtain⟨j,hj⟩:=az (i+n);rw[<-hi]at hix;obtain⟨ab,hab⟩:=az (bs A);obtain⟨db,hdb⟩:=az (bs D);obtain⟨tb,htb⟩:=az (bs (D.drop n));have hxa:rb.extract 0 i=ab:=by rw[hrb,hab,bX,hAD,hi];simp
  have hxd:rb.extract i N=db:=by rw[hrb,hdb,bX,hNr,hAD,hi];simp
  have hxt:rb.extract j N=tb:=by
   rw[hrb,htb,bX,hNr,aP (by rw[ah];omega),hAD,hj,hi,<-List.drop_drop,mn]
  have hiN:i<=N:=by omega
  have hjN:j<=N:=by omega
  have hwj:IntKind.i64.wrap ((i:Int)+(n:Int))=(j:Int):=by rw[show(i:Int)+(n:Int)=(j:Int) by omega];exact IntWalk.i64_in _ (by omega)
  rw[<-hdb]at href;have hi0:¬ (i:Int)<0:=by omega
  have a75:=h_ href;have XU:=h_ hix;have HA1:=h_ (show o.length+A.length<=1099511627776 by have:=HO.out;omega);have HA2:=h_ (show(o++A).length+t.length<=1099511627776 by have:=HO.out;rw[ae];omega);have hsa:S A=.string ab:=by rw[hab]
  have HW1:=h_ (fun(W:World) (h:Hb w o W)=>Hb.ws A h HA1.out);rw[hsa]at HW1;have HW2:=h_ (fun(W:World) (h:Hb w (o++A) W)=>Hb.ws t h HA2.out);have HE:=h_ (show T=(o++A++t)++jl (D.drop n) by rw[hTo,heq];simp only[aT]);have HTB:=h_ (show tb=bs (D.drop n)∧(D.drop n).length<=900000000∧tb.size<N from⟨htb,by rw[ah];omega,by rw[htb,aM,ah];omega⟩);clear href hix mZ heq hrb hrl hAD hA hD hd hTo hr0 hdl hlen hrn hrf ht hn hi hN hNr hj hab hdb htb hsa
  go_wp2_with (first
   |(go_at_call 81;refine(XU.out _).mono ?_;rintro e w2 ⟨rfl,hw⟩;subst w2)
   |(go_at_call 49;refine(HW1.out _ qy.out).mono ?_;rintro e w3 ⟨rfl,rK⟩;have mr:=h_ rK;clear rK qy)
   |(go_at_call 82;refine(a75.out _).mono ?_;rintro e w4 ⟨rfl,hb4⟩;have Al:=h_ (mr.out.step hb4);clear hb4 mr)
   |(go_at_call 49;refine(HW2.out _ Al.out).mono ?_;rintro e w5 ⟨rfl,a4r⟩;have Y6:=h_ a4r;clear a4r Al)
   |fail)
  go_roundw
  case rel=>exact⟨tb,rfl,h_ ⟨D.drop n,o++A++t,HTB.out.1,HTB.out.2.1,HE.out,Y6.out⟩⟩
  case measure=>have:=HTB.out.2.2;simp[G6];omega
end Go.Proofs.YtmndlfglgcioeaaGreatDoor
