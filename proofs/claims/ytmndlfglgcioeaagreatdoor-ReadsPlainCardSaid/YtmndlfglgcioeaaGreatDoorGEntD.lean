/- EntD EntE EntF EntG: joined. -/
import Derived.Test.YtmndlfglgcioeaaGreatDoorGEntC
import Derived.Test.YtmndlfglgcioeaaGreatDoorGSixF
import Derived.Test.YtmndlfglgcioeaaGreatDoorGHlwA
import Derived.Test.YtmndlfglgcioeaaGreatDoorGTextA
import Derived.Test.YtmndlfglgcioeaaGreatDoorGFouA
import Derived.Test.YtmndlfglgcioeaaGreatDoorGEmB
import Derived.Test.YtmndlfglgcioeaaGreatDoorGPctA
set_option maxHeartbeats 40000000
namespace Go.Proofs.YtmndlfglgcioeaaGreatDoor
open Tryz
open Go.RowKit
set_option maxRecDepth 10000
theorem US (c:Int):bs (enc c)=Utf8.encode c:=by unfold enc;rw[nJ]
theorem Ks:∀ p∈l8,p.2<128:=by decide
theorem Kr (s:Bytes):nK s<128:=by
 unfold nK
 cases h:look l8 s with
 |none=>exact(by decide:0<128)
 |some c=>exact Ks _ (px h)
theorem Cb (s:Bytes) (w:World):Calls prog 154 #[.string (bs s)] w fun e w'=>e=.returned (.tuple #[S ((gN s).getD []),.bool (gN s).isSome])∧Below w.heap.size w w':=by
 have hlt:=Kr s
 have hbb:=fun W=>Gb s W
 obtain⟨c,hc⟩:=ap (nK s)
 rw[<-hc]at hbb hlt
 obtain⟨b,hb⟩:=ap (bs s)
 have E:=h_ (show b.toList=s by rw[hb,au])
 rw[<-hb]at hbb ⊢
 clear hb
 by_cases h0:c=0
 ·subst h0
  have lW:=h_ (show ∀W,Calls prog 179 #[.string b] W fun e w'=>e=.returned (.int .u8 0)∧Below W.heap.size W w' from hbb)
  have HC:=h_ hc.symm
  clear hbb hlt hc
  go_enter func154,ntmps154
  go_wp2_with (first
   |(go_at_call 179;refine(lW.out _).mono ?_;rintro e w1 ⟨rfl,hb1⟩;have HB1:=h_ hb1;clear hb1)
   |fail)
  all_goals
   have hbf:gN s=look qd s:=by unfold gN;rw[if_neg (by rw[HC.out];exact fun h=>h rfl)]
   simp only[E.out,beq_iff_eq,beq_eq_false_iff_ne,ne_eq]at *
   go_ret2
   refine⟨?_,HB1.out⟩
   first
    |(refine pG ?_;simp_all[qd,look];done)
    |(refine tR ?_;simp_all[qd,look];done)
 have lW:=h_ hbb
 have hbf:=h_ (show gN s=some (enc (c:Int)) by unfold gN;rw[<-hc,if_pos h0])
 have hw:IntKind.i32.wrap (c:Int)=(c:Int):=by have:=IntWalk.i32_in (c:Int) (by omega);exact this
 have h1:¬ (c:Int)=0:=by omega
 have h2:((c:Int)==0)=false:=by simp;omega
 clear hbb hc h0
 go_enter func154,ntmps154
 go_wp2_with (first
  |(go_at_call 179;refine(lW.out _).mono ?_;rintro e w1 ⟨rfl,hb1⟩;have HB1:=h_ hb1;clear hb1)
  |fail)
 go_ret2
 refine⟨?_,HB1.out⟩
 rw[<-US]
 exact pG hbf.out
theorem Ax (s:Bytes):Lib.hasSuffix s [59]=decide (s.getLast? = some 59):=by
 cases hu:s.reverse with
 |nil =>
  have:s=[]:=by simpa using hu
  subst this
  decide
 |cons x r =>
  have:s=r.reverse++[x]:=by
   have:=congrArg List.reverse hu
   simpa using this
  rw[this,lU]
  unfold Lib.hasSuffix List.isSuffixOf
  rw[AT,List.reverse_reverse]
  show((59==x)&&true)=_
  rw[lH]
  by_cases h:x=59
  ·subst h;rfl
  rw[decide_eq_false (by simpa using h)]
  simp only[beq_eq_false_iff_ne]
  exact fun e=>h e.symm
theorem NB (s:Bytes):Lib.trimSuffix s [59]=iM s:=by
 unfold Lib.trimSuffix iM
 rw[Ax]
 by_cases h:s.getLast? = some 59
 ·rw[decide_eq_true h,if_pos rfl,if_pos h,kN];rfl
 rw[decide_eq_false h,if_neg (by decide),if_neg h]
theorem NA (s:Bytes) (w:World) (h:s.length<=1024000000):Calls prog 136 #[.string (bs s),.string ⟨#[59]⟩] w fun e w'=>e=.returned (.tuple #[S (iM s),.bool (decide (s.getLast? = some 59))])∧w'=w:=by
 have:=BO s [59] w h
 rw[Ax,NB]at this
 exact this
theorem Cc (s:Bytes) (w:World) (h:s.length<=1024000000):Calls prog 117 #[.string (bs s)] w fun e w'=>e=.returned (.tuple #[S ((et s).getD []),.bool (et s).isSome])∧Below w.heap.size w w':=by
 have hcs:=fun W=>NA s W h
 obtain⟨b,hb⟩:=ap (bs s)
 obtain⟨c,hc⟩:=ap (iM s)
 obtain⟨cb,hcb⟩:=ap (bs c)
 have hfr:=fun W=>Ln c W
 have hbd:=fun W=>Cb c W
 have hS:S c=.string cb:=by rw[hcb]
 rw[<-hb,<-hc,hS]at hcs
 rw[<-hcb]at hfr hbd
 rw[<-hb]
 cases hf:s5 c with
 |some t =>
  obtain⟨tb,htb⟩:=ap (bs t)
  have HN:=h_ (show et s=some t by unfold et;rw[<-hc,hf])
  have HT:=h_ htb
  have RC:=h_ (show ∀W,Calls prog 153 #[.string cb] W fun e w'=>e=.returned (.tuple #[.string tb,.bool true])∧w'=W from fun W=>by have:=hfr W;rw[hf]at this;rw[htb];exact this)
  have uZ:=h_ hcs
  clear hcs hb hc hcb hfr hbd hS hf htb
  go_enter func117,ntmps117
  go_wp2_with (first
   |(go_at_call 136;refine(uZ.out _).mono ?_;rintro e w1 ⟨rfl,hw⟩;subst w1)
   |(go_at_call 153;refine(RC.out _).mono ?_;rintro e w2 ⟨rfl,hw⟩;subst w2)
   |fail)
  go_ret2
  refine⟨?_,Below.refl _ _⟩
  rw[HT.out]
  exact pG HN.out
 |none =>
  have RC:=h_ (show ∀W,Calls prog 153 #[.string cb] W fun e w'=>e=.returned (.tuple #[.string ⟨#[]⟩,.bool false])∧w'=W from fun W=>by have:=hfr W;rw[hf]at this;exact this)
  by_cases hl:s.getLast? = some 59
  ·have HN:=h_ (show et s=gN c by unfold et;rw[<-hc,hf];show(if s.getLast? = some 59 then gN c else none)=_;rw[if_pos hl])
   rw[decide_eq_true hl]at hcs
   obtain⟨o,ho⟩:=ap (gN c)
   obtain⟨ob,hob⟩:=ap (bs (o.getD []))
   obtain⟨oq,hoq⟩:=ap (o.isSome)
   have qR:=h_ (show ∀W,Calls prog 154 #[.string cb] W fun e w'=>e=.returned (.tuple #[.string ob,.bool oq])∧Below W.heap.size W w' from fun W=>by rw[hob,hoq,ho];exact hbd W)
   have HO:=h_ (show ob=bs ((et s).getD [])∧oq=(et s).isSome by rw[HN.out,<-ho];exact⟨hob,hoq⟩)
   have uZ:=h_ hcs
   clear hcs hb hc hcb hfr hbd hS hf hl ho hob hoq
   go_enter func117,ntmps117
   go_wp2_with (first
    |(go_at_call 136;refine(uZ.out _).mono ?_;rintro e w1 ⟨rfl,hw⟩;subst w1)
    |(go_at_call 153;refine(RC.out _).mono ?_;rintro e w2 ⟨rfl,hw⟩;subst w2)
    |(go_at_call 154;refine(qR.out _).mono ?_;rintro e w3 ⟨rfl,hb⟩;have HB3:=h_ hb;clear hb)
    |fail)
   go_ret2
   refine⟨?_,HB3.out⟩
   rw[HO.out.1,HO.out.2]
   rfl
  have HN:=h_ (show et s=none by unfold et;rw[<-hc,hf];show(if s.getLast? = some 59 then gN c else none)=_;rw[if_neg hl])
  rw[decide_eq_false hl]at hcs
  have uZ:=h_ hcs
  clear hcs hb hc hcb hfr hbd hS hf hl
  go_enter func117,ntmps117
  go_wp2_with (first
   |(go_at_call 136;refine(uZ.out _).mono ?_;rintro e w1 ⟨rfl,hw⟩;subst w1)
   |(go_at_call 153;refine(RC.out _).mono ?_;rintro e w2 ⟨rfl,hw⟩;subst w2)
   |fail)
  go_ret2
  refine⟨?_,Below.refl _ _⟩
  exact tR HN.out
theorem zD (n:Int) (w:World):Calls prog 152 #[.int .i64 n] w fun e w'=>e=.returned (S (fD n))∧Below w.heap.size w w':=by
 have kJ:=h_ (fun(c:Int) W=>eU c W)
 have XL:=h_ (fun W=>Ic n W)
 by_cases h:n=0
 ·subst h
  clear XL
  go_enter func152,ntmps152
  go_wp2_with (first
   |(go_at_call 45;refine(kJ.out _ _).mono ?_;rintro e w1 ⟨rfl,hw⟩;subst hw)
   |fail)
  go_ret
  exact⟨rfl,Below.refl _ _⟩
 have hs:fD n=enc (pJ n):=by unfold fD;rw[if_neg h]
 rw[hs]
 obtain⟨m,hm⟩:=ap (pJ n)
 rw[<-hm]at XL ⊢
 clear hs hm
 have hb:(n==0)=false:=by simpa using h
 go_enter func152,ntmps152
 go_wp2_with (first
  |(go_at_call 178;refine(XL.out _).mono ?_;rintro e w1 ⟨rfl,hb1⟩;have HB1:=h_ hb1;clear hb1)
  |(go_at_call 45;refine(kJ.out _ _).mono ?_;rintro e w2 ⟨rfl,hw⟩;subst w2)
  |fail)
 go_ret
 exact⟨rfl,HB1.out⟩

theorem rT {c:Int}:(48<=c∧c<=57->eF c 10=c-48)∧(¬(48<=c∧c<=57)->eF c 10=-1):=by
 constructor
 ·intro h
  simp only[eF,if_pos h]
  rw[if_neg (by omega)]
 intro h
 simp only[eF,if_neg h]
 split
 ·rw[if_pos (by omega)]
 split
 ·rw[if_pos (by omega)]
 rw[if_neg (by omega)]
theorem BU (c base:Int) (hb:1<=base):-1<=eF c base∧eF c base<base:=by
 simp only[eF]
 split
 ·split <;>omega
 split
 ·split <;>omega
 split
 ·split <;>omega
 split <;>omega
theorem Lu (x:UInt8) (w:World):Calls prog 118 #[.int .u8 (b2 x)] w fun e w'=>e=.returned (.bool (vF x))∧w'=w:=by
 have hr:=gl x
 have hg:vF x=(iq (b2 x)||decide (48<=b2 x∧b2 x<=57)||decide (x=61)):=rfl
 have h61:decide (x=61)=decide (b2 x=61):=by
  rw[decide_eq_decide]
  constructor
  ·intro h;rw[h];rfl
  intro h
  have:x.toNat=61:=by unfold b2 at h;omega
  exact ew.mp this
 rw[h61]at hg
 rw[hg]
 clear h61 hg
 obtain⟨c,hc⟩:=ap (b2 x)
 rw[<-hc]at hr ⊢
 clear hc
 have hle:=fun W=>ld c W
 have hdi:=fun W=>cY c 10 W ⟨by omega,by omega⟩ (by decide)
 cases hq:iq c with
 |true =>
  rw[hq]at hle
  have gJ:=h_ hle
  clear hle hdi hq
  go_enter func118,ntmps118
  go_wp2_with (first|(go_at_call 105;refine(gJ.out _).mono ?_;rintro e w2 ⟨rfl,hw⟩;subst w2)|fail)
  go_ret
  exact⟨by simp,rfl⟩
 |false =>
  rw[hq]at hle
  by_cases hd:48<=c∧c<=57
  ·rw[(rT (c:=c)).1 hd]at hdi
   obtain⟨d,hdd⟩:=ap (c-48)
   rw[<-hdd]at hdi
   have hd0:0<=d:=by omega
   have HR:=h_ (show(false||decide (48<=c∧c<=57)||decide (c=61))=true by rw[decide_eq_true hd];rfl)
   have gJ:=h_ hle
   have kg:=h_ hdi
   clear hle hdi hq hd hdd
   go_enter func118,ntmps118
   go_wp2_with (first
    |(go_at_call 105;refine(gJ.out _).mono ?_;rintro e w2 ⟨rfl,hw⟩;subst w2)
    |(go_at_call 62;refine(kg.out _).mono ?_;rintro e w3 ⟨rfl,hw⟩;subst hw)
    |fail)
   go_ret
   exact⟨by rw[HR.out];rfl,rfl⟩
  rw[(rT (c:=c)).2 hd]at hdi
  have HR:=h_ (show(false||decide (48<=c∧c<=57)||decide (c=61))=(c==61) by rw[decide_eq_false hd];by_cases h:c=61 <;>simp[h])
  have gJ:=h_ hle
  have kg:=h_ hdi
  clear hle hdi hq hd
  go_enter func118,ntmps118
  go_wp2_with (first
   |(go_at_call 105;refine(gJ.out _).mono ?_;rintro e w2 ⟨rfl,hw⟩;subst w2)
   |(go_at_call 62;refine(kg.out _).mono ?_;rintro e w3 ⟨rfl,hw⟩;subst hw)
   |fail)
  all_goals
   go_ret
   exact⟨by rw[HR.out];simp_all,rfl⟩
theorem li {s:Bytes} {B n:Int} {f j:Nat} (hf:f<=j) (h:iY B 0 (s.drop f)=(n,j-f)):Fe s B f=if j=f then([38],1)else(fD n,j+(if s[j]? = some 59 then 1 else 0)):=by
 unfold Fe
 rw[h]
 dsimp only
 by_cases he:j=f
 ·rw[if_pos (by omega),if_pos he]
 rw[if_neg (by omega),if_neg he,show f+(j-f)=j by omega]
theorem xy {s:Bytes} {B n:Int} {j:Nat} (h:j<s.length):iY B n (s.drop j)=if eF (b2 s[j]) B<0 then(n,0)else((iY B (rA (n*B+eF (b2 s[j]) B)) (s.drop (j+1))).1,(iY B (rA (n*B+eF (b2 s[j]) B)) (s.drop (j+1))).2+1):=by
 rw[ay h]
 rfl
theorem Eo (x:UInt8):x=59 ↔ b2 x=59:=by
 constructor
 ·intro h;rw[h];rfl
 intro h
 have:x.toNat=59:=by unfold b2 at h;omega
 exact ew.mp this
theorem xY (s:Bytes) (w:World) (hs2:2<=s.length) (hL:s.length<=1000000):Calls prog 116 #[.string (bs s)] w fun e w'=>e=.returned (.tuple #[S (tH s).1,.int .i64 ((tH s).2:Nat)])∧Below w.heap.size w w':=by
 have xh:=h_ (fun(n:Int) W=>zD n W)
 have hcase:(∃h:2<s.length,s[2]=120)∨(∃h:2<s.length,s[2]=88)∨(∃h:2<s.length,s[2]≠120∧s[2]≠88)∨s.length=2:=by
  by_cases h:2<s.length
  ·by_cases h1:s[2]=120
   ·exact .inl ⟨h,h1⟩
   by_cases h2:s[2]=88
   ·exact .inr (.inl ⟨h,h2⟩)
   exact .inr (.inr (.inl ⟨h,h1,h2⟩))
  exact .inr (.inr (.inr (by omega)))
 obtain⟨b,hb⟩:=ap (bs s)
 obtain⟨R1,LC⟩:=ap ((tH s).1)
 obtain⟨R2,hR2⟩:=ap ((tH s).2)
 obtain⟨L,hl⟩:=ap (s.length)
 have hsz:b.size=L:=by rw[hb,aB,hl]
 rw[<-hb,<-LC,<-hR2]
 have SL:=h_ (show L=s.length∧b=bs s from⟨hl,hb⟩)
 have RR:=h_ (show R1=(tH s).1∧R2=(tH s).2 from⟨LC,hR2⟩)
 rw[<-hl]at hs2 hL
 clear hb LC hR2
 rcases hcase with⟨h,hx⟩|⟨h,hx⟩|⟨h,hx,hy⟩|h
 ·have YZ:2<b.size:=by omega
  have hz:=bV SL.out.2 YZ h
  rw[hx,show b2 120=120 from rfl]at hz
  have HN:=h_ (show tH s=Fe s 16 3 by unfold tH;rw[if_pos (by unfold xK;rw[decide_eq_true_eq,az h,hx];exact .inl rfl)])
  have hL3:3<=L:=by omega
  clear hx h
  clear hl
  go_enter func116,ntmps116
  go_wp2_with fail
  go_loopw [6,7,8] (fun nv iv _ wr=>∃ (n:Int) (j:Nat),3<=j∧j<=L∧0<=n∧n<=1114112∧nv=.int .i64 n∧iv=.int .i64 j∧Hid (iY 16 0 (s.drop 3)=((iY 16 n (s.drop j)).1,(iY 16 n (s.drop j)).2+(j-3)))∧wr=w) (fun _ i _ _=>L-(intOf i).toNat)
  case atStart=>exact⟨0,3,ae _,by omega,by decide,by decide,rfl,rfl,h_ (by rw[fc];rfl),rfl⟩
  case round =>
   obtain⟨n,j,hfj,hjL,hn0,hn1,rfl,rfl,HI,rfl⟩:=hrel
   by_cases hlt:j<L
   ·have hjl:j<s.length:=by have:=SL.out.1;omega
    have hjb:j<b.size:=by omega
    have hxj:=bV SL.out.2 hjb hjl
    have hst:=HI.out
    rw[xy hjl]at hst
    have hdl:=BU (b2 s[j]) 16 (by decide)
    have hrx:=gl s[j]
    have hdi:=fun W=>cY (b2 s[j]) 16 W ⟨hrx.1,by omega⟩ (by decide)
    obtain⟨d,hd⟩:=ap (eF (b2 s[j]) 16)
    rw[<-hd]at hst hdl hdi
    by_cases hneg:d<0
    ·rw[if_pos hneg]at hst
     have kg:=h_ (show ∀W,Calls prog 62 #[.int .u8 ((b[j]'hjb).toNat:Int),.int .i64 16] W fun e w'=>e=.returned (.int .i64 d)∧W=w' from fun W=>by rw[hxj];exact hdi W)
     have HR:=h_ ((HN.out).trans (li (B:=16) (n:=n) hfj (by rw[hst];simp)))
     clear hst hdi hd hdl hrx HI
     by_cases fR:j=3
     ·subst fR
      have HS:=h_ (show R1=[38]∧R2=1 by rw[RR.out.1,RR.out.2,HR.out];exact⟨rfl,rfl⟩)
      clear HR hxj
      go_wp2_with (first
       |(go_at_call 152;refine(xh.out _ _).mono ?_;rintro e w9 ⟨rfl,hb⟩;have hH:=h_ hb;clear hb)
       |(go_at_call 62;refine(kg.out _).mono ?_;rintro e w3 ⟨rfl,hw⟩;subst hw)
       |fail)
      go_ret2
      exact⟨by rw[HS.out.1,HS.out.2];rfl,Below.refl _ _⟩
     have qjf:((j:Int)==3)=false:=by simp;omega
     have LM:¬ (j:Int)=3:=by omega
     by_cases jI:s[j]=59
     ·have HS:=h_ (show R1=fD n∧R2=j+1 by rw[RR.out.1,RR.out.2,HR.out,if_neg fR,az hjl,jI];exact⟨rfl,rfl⟩)
      have hx:((b[j]'hjb).toNat:Int)=59:=by rw[hxj,jI];rfl
      replace kg:=h_ (show ∀W,Calls prog 62 #[.int .u8 59,.int .i64 16] W fun e w'=>e=.returned (.int .i64 d)∧W=w' from fun W=>by have:=kg.out W;rw[hx]at this;exact this)
      clear HR jI hxj fR
      go_wp2_with (first
       |(go_at_call 152;refine(xh.out _ _).mono ?_;rintro e w9 ⟨rfl,hb⟩;have hH:=h_ hb;clear hb)
       |(go_at_call 62;refine(kg.out _).mono ?_;rintro e w3 ⟨rfl,hw⟩;subst hw)
       |fail)
      go_ret2
      exact⟨by rw[HS.out.1,HS.out.2];rfl,hH.out⟩
     have HS:=h_ (show R1=fD n∧R2=j by rw[RR.out.1,RR.out.2,HR.out,if_neg fR,az hjl,if_neg (fun h=>jI (bw h))];exact⟨rfl,rfl⟩)
     have Dm:(b2 s[j]==59)=false:=by simp;exact fun h=>jI ((Eo _).2 h)
     obtain⟨z,hz⟩:=ap (b2 s[j])
     rw[<-hz]at Dm hxj
     replace kg:=h_ (show ∀W,Calls prog 62 #[.int .u8 z,.int .i64 16] W fun e w'=>e=.returned (.int .i64 d)∧W=w' from fun W=>by have:=kg.out W;rw[hxj]at this;exact this)
     clear HR jI hz fR
     go_wp2_with (first
      |(go_at_call 152;refine(xh.out _ _).mono ?_;rintro e w9 ⟨rfl,hb⟩;have hH:=h_ hb;clear hb)
      |(go_at_call 62;refine(kg.out _).mono ?_;rintro e w3 ⟨rfl,hw⟩;subst hw)
      |fail)
     go_ret2
     exact⟨by rw[HS.out.1,HS.out.2];rfl,hH.out⟩
    rw[if_neg hneg]at hst
    dsimp only at hst
    have kg:=h_ (show ∀W,Calls prog 62 #[.int .u8 ((b[j]'hjb).toNat:Int),.int .i64 16] W fun e w'=>e=.returned (.int .i64 d)∧W=w' from fun W=>by rw[hxj];exact hdi W)
    obtain⟨m1,hm1⟩:=ap (n*16)
    obtain⟨m2,hm2⟩:=ap (m1+d)
    have hw1:IntKind.i64.wrap (n*16)=m1:=by rw[hm1];exact IntWalk.i64_in _ (by omega)
    have hw2:IntKind.i64.wrap (m1+d)=m2:=by rw[hm2];exact IntWalk.i64_in _ (by omega)
    rw[<-hm1,<-hm2]at hst
    obtain⟨n2,hn2⟩:=ap (rA m2)
    have hmin:min m2 1114112=n2:=by rw[hn2];unfold rA;split <;>omega
    have h20:0<=n2∧n2<=1114112:=by omega
    rw[<-hn2]at hst
    have HI2:=h_ (show iY 16 0 (s.drop 3)=((iY 16 n2 (s.drop (j+1))).1,(iY 16 n2 (s.drop (j+1))).2+(j+1-3))from hst.trans (by rw[show j+1-3=1+(j-3) by omega,<-Nat.add_assoc]))
    clear hst hdi hd hdl hrx HI hxj hm1 hm2 hn2
    go_wp2_with (first
     |(go_at_call 152;refine(xh.out _ _).mono ?_;rintro e w9 ⟨rfl,hb⟩;have hH:=h_ hb;clear hb)
     |(go_at_call 62;refine(kg.out _).mono ?_;rintro e w3 ⟨rfl,hw⟩;subst hw)
     |fail)
    go_roundw
    case rel=>exact⟨n2,j+1,by omega,by omega,h20.1,h20.2,rfl,by go_num,HI2,by trivial⟩
    case measure=>simp[intOf];omega
   obtain rfl:j=L:=by omega
   have HR:=h_ ((HN.out).trans (li (B:=16) (n:=n) hfj (by rw[HI.out,show s.drop j=[]from by rw[SL.out.1,dh]];simp[iY])))
   clear HI
   by_cases fR:j=3
   ·subst fR
    have HS:=h_ (show R1=[38]∧R2=1 by rw[RR.out.1,RR.out.2,HR.out];exact⟨rfl,rfl⟩)
    clear HR
    go_wp2_with (first
     |(go_at_call 152;refine(xh.out _ _).mono ?_;rintro e w9 ⟨rfl,hb⟩;have hH:=h_ hb;clear hb)
     |(go_at_call 62;refine(kg.out _).mono ?_;rintro e w3 ⟨rfl,hw⟩;subst hw)
     |fail)
    go_ret2
    exact⟨by rw[HS.out.1,HS.out.2];rfl,Below.refl _ _⟩
   have qjf:((j:Int)==3)=false:=by simp;omega
   have LM:¬ (j:Int)=3:=by omega
   have HS:=h_ (show R1=fD n∧R2=j by rw[RR.out.1,RR.out.2,HR.out,if_neg fR,eP (by have:=SL.out.1;omega)];exact⟨rfl,rfl⟩)
   clear HR fR
   go_wp2_with (first
    |(go_at_call 152;refine(xh.out _ _).mono ?_;rintro e w9 ⟨rfl,hb⟩;have hH:=h_ hb;clear hb)
    |(go_at_call 62;refine(kg.out _).mono ?_;rintro e w3 ⟨rfl,hw⟩;subst hw)
    |fail)
   go_ret2
   exact⟨by rw[HS.out.1,HS.out.2];rfl,hH.out⟩
 ·have YZ:2<b.size:=by omega
  have hz:=bV SL.out.2 YZ h
  rw[hx,show b2 88=88 from rfl]at hz
  have HN:=h_ (show tH s=Fe s 16 3 by unfold tH;rw[if_pos (by unfold xK;rw[decide_eq_true_eq,az h,hx];exact .inr rfl)])
  have hL3:3<=L:=by omega
  clear hx h
  clear hl
  go_enter func116,ntmps116
  go_wp2_with fail
  go_loopw [6,7,8] (fun nv iv _ wr=>∃ (n:Int) (j:Nat),3<=j∧j<=L∧0<=n∧n<=1114112∧nv=.int .i64 n∧iv=.int .i64 j∧Hid (iY 16 0 (s.drop 3)=((iY 16 n (s.drop j)).1,(iY 16 n (s.drop j)).2+(j-3)))∧wr=w) (fun _ i _ _=>L-(intOf i).toNat)
  case atStart=>exact⟨0,3,ae _,by omega,by decide,by decide,rfl,rfl,h_ (by rw[fc];rfl),rfl⟩
  case round =>
   obtain⟨n,j,hfj,hjL,hn0,hn1,rfl,rfl,HI,rfl⟩:=hrel
   by_cases hlt:j<L
   ·have hjl:j<s.length:=by have:=SL.out.1;omega
    have hjb:j<b.size:=by omega
    have hxj:=bV SL.out.2 hjb hjl
    have hst:=HI.out
    rw[xy hjl]at hst
    have hdl:=BU (b2 s[j]) 16 (by decide)
    have hrx:=gl s[j]
    have hdi:=fun W=>cY (b2 s[j]) 16 W ⟨hrx.1,by omega⟩ (by decide)
    obtain⟨d,hd⟩:=ap (eF (b2 s[j]) 16)
    rw[<-hd]at hst hdl hdi
    by_cases hneg:d<0
    ·rw[if_pos hneg]at hst
     have kg:=h_ (show ∀W,Calls prog 62 #[.int .u8 ((b[j]'hjb).toNat:Int),.int .i64 16] W fun e w'=>e=.returned (.int .i64 d)∧W=w' from fun W=>by rw[hxj];exact hdi W)
     have HR:=h_ ((HN.out).trans (li (B:=16) (n:=n) hfj (by rw[hst];simp)))
     clear hst hdi hd hdl hrx HI
     by_cases fR:j=3
     ·subst fR
      have HS:=h_ (show R1=[38]∧R2=1 by rw[RR.out.1,RR.out.2,HR.out];exact⟨rfl,rfl⟩)
      clear HR hxj
      go_wp2_with (first
       |(go_at_call 152;refine(xh.out _ _).mono ?_;rintro e w9 ⟨rfl,hb⟩;have hH:=h_ hb;clear hb)
       |(go_at_call 62;refine(kg.out _).mono ?_;rintro e w3 ⟨rfl,hw⟩;subst hw)
       |fail)
      go_ret2
      exact⟨by rw[HS.out.1,HS.out.2];rfl,Below.refl _ _⟩
     have qjf:((j:Int)==3)=false:=by simp;omega
     have LM:¬ (j:Int)=3:=by omega
     by_cases jI:s[j]=59
     ·have HS:=h_ (show R1=fD n∧R2=j+1 by rw[RR.out.1,RR.out.2,HR.out,if_neg fR,az hjl,jI];exact⟨rfl,rfl⟩)
      have hx:((b[j]'hjb).toNat:Int)=59:=by rw[hxj,jI];rfl
      replace kg:=h_ (show ∀W,Calls prog 62 #[.int .u8 59,.int .i64 16] W fun e w'=>e=.returned (.int .i64 d)∧W=w' from fun W=>by have:=kg.out W;rw[hx]at this;exact this)
      clear HR jI hxj fR
      go_wp2_with (first
       |(go_at_call 152;refine(xh.out _ _).mono ?_;rintro e w9 ⟨rfl,hb⟩;have hH:=h_ hb;clear hb)
       |(go_at_call 62;refine(kg.out _).mono ?_;rintro e w3 ⟨rfl,hw⟩;subst hw)
       |fail)
      go_ret2
      exact⟨by rw[HS.out.1,HS.out.2];rfl,hH.out⟩
     have HS:=h_ (show R1=fD n∧R2=j by rw[RR.out.1,RR.out.2,HR.out,if_neg fR,az hjl,if_neg (fun h=>jI (bw h))];exact⟨rfl,rfl⟩)
     have Dm:(b2 s[j]==59)=false:=by simp;exact fun h=>jI ((Eo _).2 h)
     obtain⟨z,hz⟩:=ap (b2 s[j])
     rw[<-hz]at Dm hxj
     replace kg:=h_ (show ∀W,Calls prog 62 #[.int .u8 z,.int .i64 16] W fun e w'=>e=.returned (.int .i64 d)∧W=w' from fun W=>by have:=kg.out W;rw[hxj]at this;exact this)
     clear HR jI hz fR
     go_wp2_with (first
      |(go_at_call 152;refine(xh.out _ _).mono ?_;rintro e w9 ⟨rfl,hb⟩;have hH:=h_ hb;clear hb)
      |(go_at_call 62;refine(kg.out _).mono ?_;rintro e w3 ⟨rfl,hw⟩;subst hw)
      |fail)
     go_ret2
     exact⟨by rw[HS.out.1,HS.out.2];rfl,hH.out⟩
    rw[if_neg hneg]at hst
    dsimp only at hst
    have kg:=h_ (show ∀W,Calls prog 62 #[.int .u8 ((b[j]'hjb).toNat:Int),.int .i64 16] W fun e w'=>e=.returned (.int .i64 d)∧W=w' from fun W=>by rw[hxj];exact hdi W)
    obtain⟨m1,hm1⟩:=ap (n*16)
    obtain⟨m2,hm2⟩:=ap (m1+d)
    have hw1:IntKind.i64.wrap (n*16)=m1:=by rw[hm1];exact IntWalk.i64_in _ (by omega)
    have hw2:IntKind.i64.wrap (m1+d)=m2:=by rw[hm2];exact IntWalk.i64_in _ (by omega)
    rw[<-hm1,<-hm2]at hst
    obtain⟨n2,hn2⟩:=ap (rA m2)
    have hmin:min m2 1114112=n2:=by rw[hn2];unfold rA;split <;>omega
    have h20:0<=n2∧n2<=1114112:=by omega
    rw[<-hn2]at hst
    have HI2:=h_ (show iY 16 0 (s.drop 3)=((iY 16 n2 (s.drop (j+1))).1,(iY 16 n2 (s.drop (j+1))).2+(j+1-3))from hst.trans (by rw[show j+1-3=1+(j-3) by omega,<-Nat.add_assoc]))
    clear hst hdi hd hdl hrx HI hxj hm1 hm2 hn2
    go_wp2_with (first
     |(go_at_call 152;refine(xh.out _ _).mono ?_;rintro e w9 ⟨rfl,hb⟩;have hH:=h_ hb;clear hb)
     |(go_at_call 62;refine(kg.out _).mono ?_;rintro e w3 ⟨rfl,hw⟩;subst hw)
     |fail)
    go_roundw
    case rel=>exact⟨n2,j+1,by omega,by omega,h20.1,h20.2,rfl,by go_num,HI2,by trivial⟩
    case measure=>simp[intOf];omega
   obtain rfl:j=L:=by omega
   have HR:=h_ ((HN.out).trans (li (B:=16) (n:=n) hfj (by rw[HI.out,show s.drop j=[]from by rw[SL.out.1,dh]];simp[iY])))
   clear HI
   by_cases fR:j=3
   ·subst fR
    have HS:=h_ (show R1=[38]∧R2=1 by rw[RR.out.1,RR.out.2,HR.out];exact⟨rfl,rfl⟩)
    clear HR
    go_wp2_with (first
     |(go_at_call 152;refine(xh.out _ _).mono ?_;rintro e w9 ⟨rfl,hb⟩;have hH:=h_ hb;clear hb)
     |(go_at_call 62;refine(kg.out _).mono ?_;rintro e w3 ⟨rfl,hw⟩;subst hw)
     |fail)
    go_ret2
    exact⟨by rw[HS.out.1,HS.out.2];rfl,Below.refl _ _⟩
   have qjf:((j:Int)==3)=false:=by simp;omega
   have LM:¬ (j:Int)=3:=by omega
   have HS:=h_ (show R1=fD n∧R2=j by rw[RR.out.1,RR.out.2,HR.out,if_neg fR,eP (by have:=SL.out.1;omega)];exact⟨rfl,rfl⟩)
   clear HR fR
   go_wp2_with (first
    |(go_at_call 152;refine(xh.out _ _).mono ?_;rintro e w9 ⟨rfl,hb⟩;have hH:=h_ hb;clear hb)
    |(go_at_call 62;refine(kg.out _).mono ?_;rintro e w3 ⟨rfl,hw⟩;subst hw)
    |fail)
   go_ret2
   exact⟨by rw[HS.out.1,HS.out.2];rfl,hH.out⟩
 ·have YZ:2<b.size:=by omega
  have hz:=bV SL.out.2 YZ h
  have a4I:(b2 s[2]==120)=false:=by simp;exact fun e=>hx (ew.mp (by unfold b2 at e;show s[2].toNat=120;omega))
  have q88:(b2 s[2]==88)=false:=by simp;exact fun e=>hy (ew.mp (by unfold b2 at e;show s[2].toNat=88;omega))
  have HN:=h_ (show tH s=Fe s 10 2 by unfold tH;rw[if_neg (by unfold xK;rw[decide_eq_true_eq,az h];exact fun e=>e.elim (fun e=>hx (bw e)) (fun e=>hy (bw e)))])
  have hL2:2<L:=by omega
  obtain⟨Z,hZ⟩:=ap (b2 s[2])
  rw[<-hZ]at hz a4I q88
  clear hx hy h hZ
  clear hl
  go_enter func116,ntmps116
  go_wp2_with fail
  go_loopw [6,7,8] (fun nv iv _ wr=>∃ (n:Int) (j:Nat),2<=j∧j<=L∧0<=n∧n<=1114112∧nv=.int .i64 n∧iv=.int .i64 j∧Hid (iY 10 0 (s.drop 2)=((iY 10 n (s.drop j)).1,(iY 10 n (s.drop j)).2+(j-2)))∧wr=w) (fun _ i _ _=>L-(intOf i).toNat)
  case atStart=>exact⟨0,2,ae _,by omega,by decide,by decide,rfl,rfl,h_ (by rw[fc];rfl),rfl⟩
  case round =>
   obtain⟨n,j,hfj,hjL,hn0,hn1,rfl,rfl,HI,rfl⟩:=hrel
   by_cases hlt:j<L
   ·have hjl:j<s.length:=by have:=SL.out.1;omega
    have hjb:j<b.size:=by omega
    have hxj:=bV SL.out.2 hjb hjl
    have hst:=HI.out
    rw[xy hjl]at hst
    have hdl:=BU (b2 s[j]) 10 (by decide)
    have hrx:=gl s[j]
    have hdi:=fun W=>cY (b2 s[j]) 10 W ⟨hrx.1,by omega⟩ (by decide)
    obtain⟨d,hd⟩:=ap (eF (b2 s[j]) 10)
    rw[<-hd]at hst hdl hdi
    by_cases hneg:d<0
    ·rw[if_pos hneg]at hst
     have kg:=h_ (show ∀W,Calls prog 62 #[.int .u8 ((b[j]'hjb).toNat:Int),.int .i64 10] W fun e w'=>e=.returned (.int .i64 d)∧W=w' from fun W=>by rw[hxj];exact hdi W)
     have HR:=h_ ((HN.out).trans (li (B:=10) (n:=n) hfj (by rw[hst];simp)))
     clear hst hdi hd hdl hrx HI
     by_cases fR:j=2
     ·subst fR
      have HS:=h_ (show R1=[38]∧R2=1 by rw[RR.out.1,RR.out.2,HR.out];exact⟨rfl,rfl⟩)
      clear HR hxj
      replace kg:=h_ (show ∀W,Calls prog 62 #[.int .u8 Z,.int .i64 10] W fun e w'=>e=.returned (.int .i64 d)∧W=w' from fun W=>by have:=kg.out W;rw[hz]at this;exact this)
      go_wp2_with (first
       |(go_at_call 152;refine(xh.out _ _).mono ?_;rintro e w9 ⟨rfl,hb⟩;have hH:=h_ hb;clear hb)
       |(go_at_call 62;refine(kg.out _).mono ?_;rintro e w3 ⟨rfl,hw⟩;subst hw)
       |fail)
      go_ret2
      exact⟨by rw[HS.out.1,HS.out.2];rfl,Below.refl _ _⟩
     have qjf:((j:Int)==2)=false:=by simp;omega
     have LM:¬ (j:Int)=2:=by omega
     by_cases jI:s[j]=59
     ·have HS:=h_ (show R1=fD n∧R2=j+1 by rw[RR.out.1,RR.out.2,HR.out,if_neg fR,az hjl,jI];exact⟨rfl,rfl⟩)
      have hx:((b[j]'hjb).toNat:Int)=59:=by rw[hxj,jI];rfl
      replace kg:=h_ (show ∀W,Calls prog 62 #[.int .u8 59,.int .i64 10] W fun e w'=>e=.returned (.int .i64 d)∧W=w' from fun W=>by have:=kg.out W;rw[hx]at this;exact this)
      clear HR jI hxj fR
      go_wp2_with (first
       |(go_at_call 152;refine(xh.out _ _).mono ?_;rintro e w9 ⟨rfl,hb⟩;have hH:=h_ hb;clear hb)
       |(go_at_call 62;refine(kg.out _).mono ?_;rintro e w3 ⟨rfl,hw⟩;subst hw)
       |fail)
      go_ret2
      exact⟨by rw[HS.out.1,HS.out.2];rfl,hH.out⟩
     have HS:=h_ (show R1=fD n∧R2=j by rw[RR.out.1,RR.out.2,HR.out,if_neg fR,az hjl,if_neg (fun h=>jI (bw h))];exact⟨rfl,rfl⟩)
     have Dm:(b2 s[j]==59)=false:=by simp;exact fun h=>jI ((Eo _).2 h)
     obtain⟨z,hz⟩:=ap (b2 s[j])
     rw[<-hz]at Dm hxj
     replace kg:=h_ (show ∀W,Calls prog 62 #[.int .u8 z,.int .i64 10] W fun e w'=>e=.returned (.int .i64 d)∧W=w' from fun W=>by have:=kg.out W;rw[hxj]at this;exact this)
     clear HR jI hz fR
     go_wp2_with (first
      |(go_at_call 152;refine(xh.out _ _).mono ?_;rintro e w9 ⟨rfl,hb⟩;have hH:=h_ hb;clear hb)
      |(go_at_call 62;refine(kg.out _).mono ?_;rintro e w3 ⟨rfl,hw⟩;subst hw)
      |fail)
     go_ret2
     exact⟨by rw[HS.out.1,HS.out.2];rfl,hH.out⟩
    rw[if_neg hneg]at hst
    dsimp only at hst
    have kg:=h_ (show ∀W,Calls prog 62 #[.int .u8 ((b[j]'hjb).toNat:Int),.int .i64 10] W fun e w'=>e=.returned (.int .i64 d)∧W=w' from fun W=>by rw[hxj];exact hdi W)
    obtain⟨m1,hm1⟩:=ap (n*10)
    obtain⟨m2,hm2⟩:=ap (m1+d)
    have hw1:IntKind.i64.wrap (n*10)=m1:=by rw[hm1];exact IntWalk.i64_in _ (by omega)
    have hw2:IntKind.i64.wrap (m1+d)=m2:=by rw[hm2];exact IntWalk.i64_in _ (by omega)
    rw[<-hm1,<-hm2]at hst
    obtain⟨n2,hn2⟩:=ap (rA m2)
    have hmin:min m2 1114112=n2:=by rw[hn2];unfold rA;split <;>omega
    have h20:0<=n2∧n2<=1114112:=by omega
    rw[<-hn2]at hst
    have HI2:=h_ (show iY 10 0 (s.drop 2)=((iY 10 n2 (s.drop (j+1))).1,(iY 10 n2 (s.drop (j+1))).2+(j+1-2))from hst.trans (by rw[show j+1-2=1+(j-2) by omega,<-Nat.add_assoc]))
    clear hst hdi hd hdl hrx HI hxj hm1 hm2 hn2
    go_wp2_with (first
     |(go_at_call 152;refine(xh.out _ _).mono ?_;rintro e w9 ⟨rfl,hb⟩;have hH:=h_ hb;clear hb)
     |(go_at_call 62;refine(kg.out _).mono ?_;rintro e w3 ⟨rfl,hw⟩;subst hw)
     |fail)
    go_roundw
    case rel=>exact⟨n2,j+1,by omega,by omega,h20.1,h20.2,rfl,by go_num,HI2,by trivial⟩
    case measure=>simp[intOf];omega
   obtain rfl:j=L:=by omega
   have HR:=h_ ((HN.out).trans (li (B:=10) (n:=n) hfj (by rw[HI.out,show s.drop j=[]from by rw[SL.out.1,dh]];simp[iY])))
   clear HI
   by_cases fR:j=2
   ·subst fR
    have HS:=h_ (show R1=[38]∧R2=1 by rw[RR.out.1,RR.out.2,HR.out];exact⟨rfl,rfl⟩)
    clear HR
    go_wp2_with (first
     |(go_at_call 152;refine(xh.out _ _).mono ?_;rintro e w9 ⟨rfl,hb⟩;have hH:=h_ hb;clear hb)
     |(go_at_call 62;refine(kg.out _).mono ?_;rintro e w3 ⟨rfl,hw⟩;subst hw)
     |fail)
    go_ret2
    exact⟨by rw[HS.out.1,HS.out.2];rfl,Below.refl _ _⟩
   have qjf:((j:Int)==2)=false:=by simp;omega
   have LM:¬ (j:Int)=2:=by omega
   have HS:=h_ (show R1=fD n∧R2=j by rw[RR.out.1,RR.out.2,HR.out,if_neg fR,eP (by have:=SL.out.1;omega)];exact⟨rfl,rfl⟩)
   clear HR fR
   go_wp2_with (first
    |(go_at_call 152;refine(xh.out _ _).mono ?_;rintro e w9 ⟨rfl,hb⟩;have hH:=h_ hb;clear hb)
    |(go_at_call 62;refine(kg.out _).mono ?_;rintro e w3 ⟨rfl,hw⟩;subst hw)
    |fail)
   go_ret2
   exact⟨by rw[HS.out.1,HS.out.2];rfl,hH.out⟩
 have HN:=h_ (show tH s=Fe s 10 2 by unfold tH;rw[if_neg (by unfold xK;rw[decide_eq_true_eq,eP (by omega)];rintro(e|e) <;>cases e)])
 have hL2:¬ 2<L:=by omega
 clear h
 clear hl
 go_enter func116,ntmps116
 go_wp2_with fail
 go_loopw [6,7,8] (fun nv iv _ wr=>∃ (n:Int) (j:Nat),2<=j∧j<=L∧0<=n∧n<=1114112∧nv=.int .i64 n∧iv=.int .i64 j∧Hid (iY 10 0 (s.drop 2)=((iY 10 n (s.drop j)).1,(iY 10 n (s.drop j)).2+(j-2)))∧wr=w) (fun _ i _ _=>L-(intOf i).toNat)
 case atStart=>exact⟨0,2,ae _,by omega,by decide,by decide,rfl,rfl,h_ (by rw[fc];rfl),rfl⟩
 case round =>
  obtain⟨n,j,hfj,hjL,hn0,hn1,rfl,rfl,HI,rfl⟩:=hrel
  by_cases hlt:j<L
  ·omega
  obtain rfl:j=L:=by omega
  have HR:=h_ ((HN.out).trans (li (B:=10) (n:=n) hfj (by rw[HI.out,show s.drop j=[]from by rw[SL.out.1,dh]];simp[iY])))
  clear HI
  by_cases fR:j=2
  ·subst fR
   have HS:=h_ (show R1=[38]∧R2=1 by rw[RR.out.1,RR.out.2,HR.out];exact⟨rfl,rfl⟩)
   clear HR
   go_wp2_with (first
    |(go_at_call 152;refine(xh.out _ _).mono ?_;rintro e w9 ⟨rfl,hb⟩;have hH:=h_ hb;clear hb)
    |(go_at_call 62;refine(kg.out _).mono ?_;rintro e w3 ⟨rfl,hw⟩;subst hw)
    |fail)
   go_ret2
   exact⟨by rw[HS.out.1,HS.out.2];rfl,Below.refl _ _⟩
  omega

theorem Dq {s:Bytes} {n:Nat} (h:et ((s.drop 1).take (n+1))=none):gM s (n+1)=gM s n:=by rw[gM,h]
theorem Ds {s t:Bytes} {n:Nat} (h:et ((s.drop 1).take (n+1))=some t):gM s (n+1)=if MS s (n+1)=true then([38],1)else(t,n+2):=by rw[gM,h]
theorem MT {s:Bytes} {n:Nat} (h:n<s.length) (e:s[n]=59):MS s n=false:=by
 unfold MS
 rw[az h,e]
 rfl
theorem QA {s:Bytes} {n:Nat} (h:s.length<=n+1):MS s n=false:=by
 unfold MS
 rw[eP (i:=n+1) h]
 exact Bool.and_false _
theorem V2 {s:Bytes} {n:Nat} (h:n+1<s.length) (e:s[n]≠59):MS s n=vF s[n+1]:=by
 unfold MS
 rw[az (show n<s.length by omega),az h,decide_eq_true (p:=some s[n]≠some 59) (fun x=>e (bw x)),A7]
theorem uT (s:Bytes) (w:World) (h1:1<=s.length) (hL:s.length<=1000000):Calls prog 82 #[.string (bs s)] w fun e w'=>e=.returned (.tuple #[S (fH s).1,.int .i64 ((fH s).2:Nat)])∧Below w.heap.size w w':=by
 have hpa:=fun W=>n7 s [38,35] W
 by_cases hp:Lib.hasPrefix s [38,35]=true
 ·have h2:2<=s.length:=by
   unfold Lib.hasPrefix at hp
   have:=(dO.mp hp).length_le
   simpa using this
  have hnb:=fun W=>xY s W h2 hL
  rw[show fH s=tH s by unfold fH;rw[if_pos hp]]
  rw[hp]at hpa
  obtain⟨R1,LC⟩:=ap ((tH s).1)
  obtain⟨R2,hR2⟩:=ap ((tH s).2)
  obtain⟨b,hb⟩:=ap (bs s)
  rw[<-LC,<-hR2,<-hb]at hnb
  rw[<-LC,<-hR2,<-hb]
  rw[<-hb]at hpa
  have HP:=h_ (show ∀W,Calls prog 57 #[.string b,.string ⟨#[38,35]⟩] W fun e w'=>e=.returned (.bool true)∧w'=W from hpa)
  have TJ:=h_ hnb
  clear hpa hnb LC hR2 hb hp
  go_enter func82,ntmps82
  go_wp2_with (first
   |(go_at_call 57;refine(HP.out _).mono ?_;rintro e w1 ⟨rfl,hw⟩;subst w1)
   |(go_at_call 116;refine(TJ.out _).mono ?_;rintro e w2 ⟨rfl,hb⟩;have HB2:=h_ hb;clear hb)
   |fail)
  go_ret2
  exact⟨rfl,HB2.out⟩
 have hpf:Lib.hasPrefix s [38,35]=false:=by simpa using hp
 rw[hpf]at hpa
 have hrf:fH s=gM s (min 15 (s.length-1)):=by unfold fH;rw[if_neg hp]
 obtain⟨R1,LC⟩:=ap ((fH s).1)
 obtain⟨R2,hR2⟩:=ap ((fH s).2)
 obtain⟨b,hb⟩:=ap (bs s)
 obtain⟨L,hl⟩:=ap (s.length)
 have hsz:b.size=L:=by rw[hb,aB,hl]
 obtain⟨m0,hm0⟩:=ap (min 15 (L-1))
 have hmi:IntKind.i64.wrap ((L:Int)-1)=((L-1:Nat):Int):=by rw[show(L:Int)-1=((L-1:Nat):Int) by omega];exact IntWalk.i64_in _ (by omega)
 obtain⟨L1,hL1⟩:∃ x:Nat,x=L-1:=⟨_,rfl⟩
 rw[<-hL1]at hmi hm0
 have hmin:min 15 (L1:Int)=(m0:Int):=by omega
 have hmL:m0<=L1:=by omega
 rw[<-LC,<-hR2,<-hb]
 rw[<-hb]at hpa
 have HP:=h_ (show ∀W,Calls prog 57 #[.string b,.string ⟨#[38,35]⟩] W fun e w'=>e=.returned (.bool false)∧w'=W from hpa)
 have HR:=h_ (show fH s=gM s m0 by rw[hrf,hm0,hL1,hl])
 have RR:=h_ (show R1=(fH s).1∧R2=(fH s).2 from⟨LC,hR2⟩)
 have SL:=h_ (show L=s.length∧b=bs s from⟨hl,hb⟩)
 have OP:=h_ (show L1+1=L by omega)
 rw[<-hl]at hL
 clear hpa LC hR2 hb hp hpf hrf hl hm0 hL1 h1
 go_enter func82,ntmps82
 go_wp2_with (first
  |(go_at_call 57;refine(HP.out _).mono ?_;rintro e w1 ⟨rfl,hw⟩;subst w1)
  |fail)
 clear hmi hmin
 go_loopw [4,5,6] (fun iv _ _ wr=>∃ n:Nat,n<=L1∧iv=.int .i64 n∧Hid (fH s=gM s n)∧Hid (Below w.heap.size w wr)) (fun i _ _ _=>(intOf i).toNat)
 case atStart=>exact⟨m0,hmL,rfl,HR,h_ (Below.refl _ _)⟩
 case round =>
  obtain⟨n,hn,rfl,HG,HB⟩:=hrel
  by_cases hn0:n=0
  ·subst hn0
   have HS:=h_ (show R1=[38]∧R2=1 by rw[RR.out.1,RR.out.2,HG.out];exact⟨rfl,rfl⟩)
   go_wp2_with fail
   go_ret2
   exact⟨by rw[HS.out.1,HS.out.2];rfl,HB.out⟩
  obtain⟨m,hm⟩:∃ m,n=m+1:=⟨n-1,by omega⟩
  have hnp:0<n:=by omega
  have hnL:n<L:=by have:=OP.out;omega
  obtain⟨n1,hn1⟩:∃ x:Nat,x=n+1:=⟨_,rfl⟩
  have hw1:IntKind.i64.wrap ((n:Int)+1)=(n1:Int):=by rw[show(n:Int)+1=(n1:Int) by omega];exact IntWalk.i64_in _ (by omega)
  have a80:1<=n1:=by omega
  have a81:n1<=L:=by omega
  obtain⟨tb,htb⟩:=ap (bs ((s.drop 1).take n))
  have hex:b.extract 1 n1=tb:=by rw[SL.out.2,bM,htb,hn1];rfl
  have hnm:=fun W=>Cc ((s.drop 1).take n) W (by rw[aA];have:=SL.out.1;omega)
  rw[<-htb]at hnm
  cases hf:et ((s.drop 1).take n)with
  |none =>
   rw[hf]at hnm
   have lS:=h_ (show ∀W,Calls prog 117 #[.string tb] W fun e w'=>e=.returned (.tuple #[.string ⟨#[]⟩,.bool false])∧Below W.heap.size W w' from hnm)
   have HG2:=h_ (show fH s=gM s m by rw[HG.out,hm];exact Dq (by rw[<-hm];exact hf))
   have hw2:IntKind.i64.wrap ((n:Int)-1)=(m:Int):=by rw[show(n:Int)-1=(m:Int) by omega];exact IntWalk.i64_in _ (by omega)
   have a4d:m<=L1:=by omega
   have HM:=h_ (show m<n by omega)
   clear hnm htb hf hm hn1 hn0
   go_wp2_with (first
    |(go_at_call 117;refine(lS.out _).mono ?_;rintro e w2 ⟨rfl,hb⟩;have HB2:=h_ (HB.out.trans (hb.mono HB.out.size));clear hb)
    |fail)
   go_roundw
   case rel=>exact⟨m,a4d,rfl,HG2,HB2⟩
   case measure=>have:=HM.out;simp[intOf];omega
  |some t =>
   rw[hf]at hnm
   obtain⟨tt,AX⟩:=ap (bs t)
   have lS:=h_ (show ∀W,Calls prog 117 #[.string tb] W fun e w'=>e=.returned (.tuple #[.string tt,.bool true])∧Below W.heap.size W w' from fun W=>by rw[AX];exact hnm W)
   have hg:=HG.out
   rw[hm,Ds (by rw[<-hm];exact hf),<-hm,show m+2=n1 by omega]at hg
   have TT:=h_ AX
   have hsl:n<s.length:=by have:=SL.out.1;omega
   have hbl:n<b.size:=by omega
   have hx:=bV SL.out.2 hbl hsl
   by_cases jI:s[n]=59
   ·rw[MT hsl jI,if_neg (by decide)]at hg
    have HS:=h_ (show R1=t∧R2=n1 by rw[RR.out.1,RR.out.2,hg];exact⟨rfl,rfl⟩)
    rw[jI,show b2 59=59 from rfl]at hx
    clear hnm htb hf hm hn1 hn0 AX hg jI
    go_wp2_with (first
     |(go_at_call 117;refine(lS.out _).mono ?_;rintro e w2 ⟨rfl,hb⟩;have HB2:=h_ (HB.out.trans (hb.mono HB.out.size));clear hb)
     |fail)
    go_ret2
    exact⟨by rw[HS.out.1,HS.out.2,TT.out];rfl,HB2.out⟩
   have Dm:(b2 s[n]==59)=false:=by simp;exact fun h=>jI ((Eo _).2 h)
   obtain⟨z,hz⟩:=ap (b2 s[n])
   rw[<-hz]at Dm hx
   have a8B:¬ z=59:=by simpa using Dm
   by_cases hlast:n1<L
   ·have hsl1:n1<s.length:=by have:=SL.out.1;omega
    have a3X:n1<b.size:=by omega
    have hx1:=bV SL.out.2 a3X hsl1
    have hon:MS s n=vF s[n1]:=by
     have:=V2 (s:=s) (n:=n) (by omega) jI
     rw[this]
     congr 1
     exact getElem_congr rfl hn1.symm _
    rw[hon]at hg
    have hgo:=fun W=>Lu s[n1] W
    obtain⟨y,hy⟩:=ap (b2 s[n1])
    rw[<-hy]at hx1 hgo
    cases hq:vF s[n1]with
    |true =>
     rw[hq]at hg hgo
     have HGO:=h_ hgo
     have HS:=h_ (show R1=[38]∧R2=1 by rw[RR.out.1,RR.out.2,hg];exact⟨rfl,rfl⟩)
     clear hnm htb hf hm hn1 hn0 AX hg jI hz hon hgo hq hy
     go_wp2_with (first
      |(go_at_call 117;refine(lS.out _).mono ?_;rintro e w2 ⟨rfl,hb⟩;have HB2:=h_ (HB.out.trans (hb.mono HB.out.size));clear hb)
      |(go_at_call 118;refine(HGO.out _).mono ?_;rintro e w3 ⟨rfl,hw⟩;subst w3)
      |fail)
     go_ret2
     exact⟨by rw[HS.out.1,HS.out.2];rfl,HB2.out⟩
    |false =>
     rw[hq]at hg hgo
     have HGO:=h_ hgo
     have HS:=h_ (show R1=t∧R2=n1 by rw[RR.out.1,RR.out.2,hg];exact⟨rfl,rfl⟩)
     clear hnm htb hf hm hn1 hn0 AX hg jI hz hon hgo hq hy
     go_wp2_with (first
      |(go_at_call 117;refine(lS.out _).mono ?_;rintro e w2 ⟨rfl,hb⟩;have HB2:=h_ (HB.out.trans (hb.mono HB.out.size));clear hb)
      |(go_at_call 118;refine(HGO.out _).mono ?_;rintro e w3 ⟨rfl,hw⟩;subst w3)
      |fail)
     go_ret2
     exact⟨by rw[HS.out.1,HS.out.2,TT.out];rfl,HB2.out⟩
   rw[QA (by have:=SL.out.1;omega),if_neg (by decide)]at hg
   have HS:=h_ (show R1=t∧R2=n1 by rw[RR.out.1,RR.out.2,hg];exact⟨rfl,rfl⟩)
   have a4b:¬ (n1:Int)<L:=by omega
   clear hnm htb hf hm hn1 hn0 AX hg jI hz
   go_wp2_with (first
    |(go_at_call 117;refine(lS.out _).mono ?_;rintro e w2 ⟨rfl,hb⟩;have HB2:=h_ (HB.out.trans (hb.mono HB.out.size));clear hb)
    |fail)
   go_ret2
   exact⟨by rw[HS.out.1,HS.out.2,TT.out];rfl,HB2.out⟩

theorem Mn:∀ r:Bytes,(r.dropWhile na=[]->Lib.indexByte r 38=-1)∧(r.dropWhile na ≠ []->Lib.indexByte r 38=((r.takeWhile na).length:Nat))
 | []=>⟨fun _=>rfl,fun h=>absurd rfl h⟩
 |y::l=>by
  have ih:=Mn l
  unfold Lib.indexByte
  by_cases h:y=38
  ·subst h
   rw[bC (by decide),bd (by decide)]
   exact And.intro (fun e=>absurd e (by simp)) (fun _=>rfl)
  have h1:(y==38)=false:=by simpa using h
  have h2:na y=true:=by unfold na;simpa using h
  rw[bh h2,bo h2,h1]
  constructor
  ·intro e;rw[ih.1 e];rfl
  intro e
  rw[ih.2 e]
  have:((((l.takeWhile na).length:Nat):Int) == -1)=false:=by simp
  rw[this]
  simp
theorem a4F (l:Bytes) (W:World):Calls prog 81 #[.string (bs l),.int .u8 38] W fun e w'=>e=.returned (.int .i64 (Lib.indexByte l 38))∧w'=W:=by
 have h:=Any.strings_IndexByte laysIB (bs l) 38 W
 rw[show(bs l).data.toList=l from du l]at h
 exact h
theorem zu (s:Bytes) (w:World) (hL:s.length<=1000000):Calls prog 46 #[.string (bs s)] w fun e w'=>e=.returned (S (fw s))∧Below w.heap.size w w':=by
 obtain⟨b,hb⟩:=ap (bs s)
 have hel:=rU s.length s (ae _)
 obtain⟨T,hT⟩:=ap (fw s)
 rw[<-hT]at hel ⊢
 have HT:=h_ (show T.length<=6000000 by omega)
 have HI:=h_ (show T=[]++fw s from hT)
 have HLs:=h_ hL
 rw[<-hb]
 have HB0:=h_ hb
 clear hel hT hL hb
 go_enter func46,ntmps46
 go_wp2_with fail
 go_loopw [0,4,5,6] (fun sv _ _ _ wr=>∃ rb:ByteArray,sv=.string rb∧Hid (∃r o:Bytes,rb=bs r∧r.length<=1000000∧T=o++fw r∧Hb w o wr)) (fun sv _ _ _ _=>CT sv)
 case atStart=>exact⟨b,rfl,h_ ⟨s,[],HB0.out,HLs.out,HI.out,Hb.fresh w⟩⟩
 case round =>
  obtain⟨rb,rfl,HR⟩:=hrel
  obtain⟨r,o,hrb,hrl,Vl,hbd⟩:=HR.out
  clear HR
  have hol:o.length<=6000000:=by have:=HT.out;have h2:=congrArg List.length Vl;rw[af]at h2;omega
  have qR:=h_ hbd
  have HO:=h_ hol
  clear hbd hol
  by_cases hr0:r=[]
  ·have HE:=h_ (show T=o by rw[Vl,hr0,xG,aV])
   have e1:rb.toList.isEmpty=true:=by rw[hrb,hr0,au];rfl
   have e2:rb.toList=[]:=by rw[hrb,hr0,au]
   clear Vl hr0 hrb hrl
   go_wp2_with (first
    |(go_at_call 52;refine(Hb.str qR.out).mono ?_;rintro e w2 ⟨rfl,hb2⟩;have HB2:=h_ hb2;clear hb2)
    |fail)
   go_ret
   exact⟨by rw[HE.out];rfl,HB2.out⟩
  have e1:rb.toList.isEmpty=false:=by rw[hrb,au];simpa using hr0
  have e2:¬ rb.toList=[]:=by rw[hrb,au];exact hr0
  have hix:=fun W=>a4F r W
  rw[<-hrb]at hix
  have kL:=Mn r
  have heq:=xF r
  obtain⟨A,hA⟩:=ap (r.takeWhile na)
  obtain⟨D,hD⟩:=ap (r.dropWhile na)
  have Vi:r=A++D:=by rw[hA,hD,ft]
  rw[<-hA,<-hD]at kL heq
  by_cases hd:D=[]
  ·rw[kL.1 hd]at hix
   rw[if_pos hd,aV]at heq
   have hrA:r=A:=by rw[Vi,hd,aV]
   have HE:=h_ (show T=o++r by rw[Vl,heq,<-hrA])
   have RE:=h_ hix
   have ru:=h_ hrb
   have Bg:=h_ hrl
   have hsr:S r=.string rb:=by rw[hrb]
   have HWS:=h_ (fun(W:World) (h:Hb w o W)=>Hb.ws r h (by have:=HO.out;have:=Bg.out;omega))
   rw[hsr]at HWS
   clear hix kL heq hrA hrb hrl hsr Vi hA hD hd Vl hr0
   go_wp2_with (first
    |(go_at_call 81;refine(RE.out _).mono ?_;rintro e w2 ⟨rfl,hw⟩;subst w2)
    |(go_at_call 49;refine(HWS.out _ qR.out).mono ?_;rintro e w3 ⟨rfl,zT⟩;have FI:=h_ zT;clear zT)
    |(go_at_call 52;refine(Hb.str FI.out).mono ?_;rintro e w4 ⟨rfl,hb2⟩;have HB2:=h_ hb2;clear hb2)
    |fail)
   go_ret
   exact⟨by rw[HE.out];rfl,HB2.out⟩
  rw[kL.2 hd]at hix
  rw[if_neg hd]at heq
  have hdl:1<=D.length:=by cases hD':D with
   |nil=>exact absurd hD' hd
   |cons x l=>rw[ag];omega
  have hlen:r.length=A.length+D.length:=by rw[Vi,af]
  have hrn:=yf hdl
  have hrf:=Aj D
  have href:=fun W=>uT D W hdl (by omega)
  obtain⟨t,ht⟩:=ap ((fH D).1)
  obtain⟨n,hn⟩:=ap ((fH D).2)
  rw[<-ht,<-hn]at heq href
  rw[<-hn]at hrn
  rw[<-ht]at hrf
  obtain⟨i,hi⟩:=ap (A.length)
  obtain⟨N,hN⟩:=ap (rb.size)
  have hsz:rb.size=N:=hN.symm
  have hNr:N=r.length:=by rw[hN,hrb,aB]
  obtain⟨j,hj⟩:=ap (i+n)
  rw[<-hi]at hix
  obtain⟨ab,hab⟩:=ap (bs A)
  obtain⟨db,hdb⟩:=ap (bs D)
  obtain⟨tb,htb⟩:=ap (bs (D.drop n))
  have hxa:rb.extract 0 i=ab:=by rw[hrb,hab,bM,Vi,hi];simp
  have hxd:rb.extract i N=db:=by rw[hrb,hdb,bM,hNr,Vi,hi];simp
  have hxt:rb.extract j N=tb:=by
   rw[hrb,htb,bM,hNr,aI (by rw[ai];omega),Vi,hj,hi,<-List.drop_drop,oI]
  have hiN:i<=N:=by omega
  have Zw:j<=N:=by omega
  have hwj:IntKind.i64.wrap ((i:Int)+(n:Int))=(j:Int):=by rw[show(i:Int)+(n:Int)=(j:Int) by omega];exact IntWalk.i64_in _ (by omega)
  rw[<-hdb]at href
  have hi0:¬ (i:Int)<0:=by omega
  have a2y:=h_ href
  have RE:=h_ hix
  have HA1:=h_ (show o.length+A.length<=1099511627776 by have:=HO.out;omega)
  have HA2:=h_ (show(o++A).length+t.length<=1099511627776 by have:=HO.out;rw[af];omega)
  have hsa:S A=.string ab:=by rw[hab]
  have HW1:=h_ (fun(W:World) (h:Hb w o W)=>Hb.ws A h HA1.out)
  rw[hsa]at HW1
  have HW2:=h_ (fun(W:World) (h:Hb w (o++A) W)=>Hb.ws t h HA2.out)
  have HE:=h_ (show T=(o++A++t)++fw (D.drop n) by rw[Vl,heq];simp only[aX])
  have HTB:=h_ (show tb=bs (D.drop n)∧(D.drop n).length<=1000000∧tb.size<N from⟨htb,by rw[ai];omega,by rw[htb,aB,ai];omega⟩)
  clear href hix kL heq hrb hrl Vi hA hD hd Vl hr0 hdl hlen hrn hrf ht hn hi hN hNr hj hab hdb htb hsa
  go_wp2_with (first
   |(go_at_call 81;refine(RE.out _).mono ?_;rintro e w2 ⟨rfl,hw⟩;subst w2)
   |(go_at_call 49;refine(HW1.out _ qR.out).mono ?_;rintro e w3 ⟨rfl,zT⟩;have FI:=h_ zT;clear zT qR)
   |(go_at_call 82;refine(a2y.out _).mono ?_;rintro e w4 ⟨rfl,hb4⟩;have OF:=h_ (FI.out.step hb4);clear hb4 FI)
   |(go_at_call 49;refine(HW2.out _ OF.out).mono ?_;rintro e w5 ⟨rfl,Zf⟩;have a1W:=h_ Zf;clear Zf OF)
   |fail)
  go_roundw
  case rel=>exact⟨tb,rfl,h_ ⟨D.drop n,o++A++t,HTB.out.1,HTB.out.2.1,HE.out,a1W.out⟩⟩
  case measure=>have:=HTB.out.2.2;simp[CT];omega
end Go.Proofs.YtmndlfglgcioeaaGreatDoor
