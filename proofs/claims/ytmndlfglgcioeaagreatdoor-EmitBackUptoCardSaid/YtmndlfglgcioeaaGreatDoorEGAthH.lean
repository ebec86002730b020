/- Joined texts. -/
import Derived.Test.YtmndlfglgcioeaaGreatDoorEGHlwA
set_option maxHeartbeats 40000000
namespace Go.Proofs.YtmndlfglgcioeaaGreatDoor
open Tryz
open Go.RowKit
set_option maxRecDepth 10000
def KK(l:Bytes):Option (Bytes×Bytes×Bytes):=match Au l with
 |none=>some (l,[],[])
 |some (who,rest)=>if rest=[]then none else some (rest,dq 5 (mE who).1,dq 5 (mE who).2)
theorem Jl(aH l:Bytes):kg aH l=match KK l with|none=>none|some (s,u,p)=>qu aH s u p:=by
 unfold kg KK;cases Au l with
 |none=>rfl
 |some v =>
  obtain⟨a,b⟩:=v;dsimp only
  split <;>rfl
def Oq(s:Bytes):Option (Bytes×Bytes):=match nX false s with
 |none=>some (s,[])
 |some k=>if s.take k=[]then none else some (s.take k,s.drop (k+1))
theorem Kz(aH s u p:Bytes):qu aH s u p=match Oq s with|none=>none|some (n,q)=>yz aH n q u p:=by
 unfold qu Oq;rw[Yj];cases nX false s with
 |none=>rfl
 |some k =>
  simp only[yw]
  split <;>rfl
theorem Pc{tmps:Array Value}{w w2:World}{b:Nat}{a:mq}{q:Bool}(h2:tmps.getD 4 undef=.pointer (some ⟨b,0,none⟩))(h3:tmps.getD 5 undef=.bool q)(i:OB w b 151 (bW a) w2)(a8:a.host.six.length=8){R:Option mq}(hR:a=R.getD A0)(hq:q=R.isSome) :
  bodyPost prog f134 (fun e w'=>e=a3y R∧Below w.heap.size w w') Exit.ret {tmps:=tmps,defers:=[]} w2:=by
 have h2':tmps[4]?.getD undef=.pointer (some ⟨b,0,none⟩):=by simpa using h2
 have h3':tmps[5]?.getD undef=.bool q:=by simpa using h3
 have hl:=i.load (P:=prog) 151 _ underlying151 rfl (by rw[gd a8];exact rv);refine bodyPost_ret (v:=.tuple #[.agg (bW a),.bool q]) ?_ rfl ⟨by rw[hR,hq],i.bL⟩;simp[results,results134,asAddr,h2',h3',hl]
theorem SX{ops:Array Oper}{rest:List Oper}{o:Oper}{a:Act}{w:World}{Q:Exit->Act->World->Prop}(hgd:o.guard=none)(x y:Operand)(ho:o.op=.store 151 x y)(w0:World)(b:Nat)(a0 a1:mq)(i:OB w0 b 151 (bW a0) w)
  (h0:a0.host.six.length=8) (h1:a1.host.six.length=8) (hx:a.eval x=.pointer (some ⟨b,0,none⟩)) (hy:a.eval y=.agg (bW a1))
  (K:∀ w',OB w0 b 151 (bW a1) w'->wpList prog ops Q rest (a.put o.dst undef) w'):wpList prog ops Q (o::rest) a w :=
 Nd hgd 151 x y ho w0 b 151 (bW a0) i 0 (ld a1) hx hy (by rw[gd h0,rx h1];exact af _) (by rw[rx h1];exact rv) Jj (bW a1) (nI _ _ (by rw[rx h0,rx h1])) K
theorem Hl{s n q:Bytes}(h:Oq s=some (n,q)):n.length<=s.length∧q.length<=s.length:=by
 unfold Oq at h
 split at h
 ·injection h with h
  injection h with h1 h2
  subst h1;subst h2;simp
 split at h
 ·cases h
 injection h with h
 injection h with h1 h2
 subst h1;subst h2;rw[aE,ah];omega
theorem Ip{l s u p:Bytes}(h:KK l=some (s,u,p)):s.length<=l.length:=by
 unfold KK at h;rcases Jh l with⟨_,e⟩|⟨i,hi,_,e⟩
 ·rw[e]at h
  injection h with h
  injection h with h1 h2
  rw[h1];exact af _
 rw[e]at h;dsimp only at h
 split at h
 ·cases h
 injection h with h
 injection h with h1 h2
 rw[<-h1,ah];omega
theorem FL(aH l:Bytes)(w:World)(hl:l.length<=307200000)(hS:∀ s u p n q,KK l=some (s,u,p)->Oq s=some (n,q)->Short n)(hE:Env w):Calls prog 134 #[.string (bs aH),.string (bs l)] w fun e w'=>e=a3y (kg aH l)∧Below w.heap.size w w':=by
 obtain⟨R,hR⟩:=az (kg aH l);rw[<-hR];rw[Jl]at hR;have HR:=h_ hR;clear hR;have HSH:=h_ hS;clear hS;have Ra:=fun W=>Any.strings_LastIndexByte laysLib (bs l) 64 (by rw[aM];omega) W;have hla:=Jh l;obtain⟨I,hI⟩:=az (Lib.lastIndexByte (bs l) 64);have DS:∀ W,bV prog 166 #[.string (bs l),.int .u8 64] W (.int .i64 I):=by rw[hI];exact Ra
 rw[<-hI]at hla;have Cq:=h_ DS;clear DS Ra hI;have hsp:=fun W=>gZ aH W;have hpo:=fun q W (hq:q.length<=1024000000)=>Lm aH q W hq;obtain⟨ss,hss⟩:=az (bs aH);rw[<-hss]at hsp hpo ⊢;clear hss;have j0:=h_ hsp;clear hsp;have FE:=h_ hpo;clear hpo;obtain⟨s,hs⟩:=az (bs l);have hsz:s.size=l.length:=by rw[hs,aM]
 have hx1:∀ k,s.extract 0 k=bs (l.take k):=fun k=>by rw[hs,bX,cU,qj]
 have hx2:∀ k,s.extract k s.size=bs (l.drop k):=fun k=>by rw[hs,bX,aM,aP (by rw[ah];omega)]
 have HS:=h_ hs;rw[<-hs]at Cq ⊢;clear hs;obtain⟨N,hN⟩:=az (s.size);have lk:s.size=N:=hN.symm;rw[lk]at hx2;have p7:N<=307200000:=by omega
 have ou:N=l.length:=by omega
 have UY:=h_ hx1;clear hx1;have U7:=h_ hx2;clear hx2;have Od:=h_ hla;clear hla;have HE:=h_ hE;clear hE;have HNL:=h_ ou;have HL:=h_ hl;clear hsz hl hN ou;go_enter func134,ntmps134
 go_upto_if 19 with(first
  |(refine aS rfl 151 rfl _ _ (allA _) ?_)
  |(go_at_call 166;refine(Cq.out _).mono ?_;rintro e w2 ⟨rfl,hw2⟩;subst hw2)
  |fail)
 have h4:=OB.fresh w 151 (bW A0);obtain⟨w1,hw1⟩:=az (w.alloc (.cells (bW A0) 151));rw[<-hw1]at h4 ⊢;have hz1:w1.heap.size=w.heap.size+1:=by rw[hw1];simp
 have h6:=OB.fresh w1 151 (bW A0);rw[hz1]at h6;have H4:=h_ h4;clear h4;clear hw1;obtain⟨w2,hw2⟩:=az (w1.alloc (.cells (bW A0) 151));rw[<-hw2]at h6 ⊢;clear hw2;have H6:=h_ h6;clear h6;have HZ:=h_ hz1;clear hz1
 go_cut [1] (fun sv wx=>∃ s2 u p,KK l=some (s2,u,p)∧sv=.string (bs s2)∧Hid (OB w1 (w.heap.size+1) 151 (bW {A0 with user:=u,pass:=p}) wx))
 case first =>
  rcases Od.out with⟨e1,e2⟩|⟨i,hi,e1,e2⟩
  ·subst e1
   have hst:KK l=some (l,[],[]):=by unfold KK;rw[e2]
   have HST:=h_ hst;clear hst e2 Od
   go_wp2_with fail
   go_meet
   case rel=>exact⟨l,[],[],HST.out,by rw[HS.out],H6.out⟩
  subst e1;have e3:=UY.out i;have e4:=U7.out (i+1);have hst:KK l=if l.drop (i+1)=[]then none else some (l.drop (i+1),dq 5 (mE (l.take i)).1,dq 5 (mE (l.take i)).2):=by unfold KK;rw[e2]
  have mY:=fun W (hW:Below w.heap.size w W)=>jE (l.take i) [58] W (by rw[aE];have:=HL.out;omega) (HE.out.below hW);rw[Ed]at mY;rw[PY]at hst
  have hlen:(bY 58 (l.take i)).1.length<=307200000∧(bY 58 (l.take i)).2.1.length<=307200000:=by
   have h:=congrArg List.length (nd 58 (l.take i));have hq:(bY 58 (l.take i)).2.2=false->(bY 58 (l.take i)).2.1=[]:=ij 58 _;rw[ae]at h;have:=HL.out;by_cases hf:(bY 58 (l.take i)).2.2=true
   ·rw[if_pos hf,ag,aE]at h
    omega
   rw[if_neg hf,aN,aE]at h;rw[hq (by simpa using hf)];simp only[aN];omega
  have hin:i+1<=N:=by have:=HNL.out;omega
  generalize bY 58 (l.take i)=C at mY hst hlen;obtain⟨c1,c2,c3⟩:=C;simp only at hst hlen mY;have hp1:=fun W=>fz 5 c1 W (by omega);have hp2:=fun W=>fz 5 c2 W (by omega);generalize l.take i=who at e3 mY;obtain⟨r,hr⟩:=az (bs (l.drop (i+1)));have hre:r.toList=[] ↔ l.drop (i+1)=[]:=by rw[hr,ay]
  rw[<-hr]at e4;have HRR:=h_ hr;clear hr;generalize l.drop (i+1)=rest at hst hre HRR;generalize dq 5 c1=u at hst hp1;generalize dq 5 c2=p at hst hp2;obtain⟨k1,hk1⟩:=az (bs c1);obtain⟨k2,hk2⟩:=az (bs c2);have a0q:∀ W,Below w.heap.size w W->bN prog 68 #[.string (bs who),.string ⟨#[58]⟩] W (.tuple #[.string k1,.string k2,.bool c3]):=by rw[hk1,hk2];exact mY
  rw[<-hk1]at hp1;rw[<-hk2]at hp2;clear hk1 hk2 mY hlen;generalize bs who=wh at e3 a0q;have mt:=h_ a0q;clear a0q;have Ca:=h_ hp1;clear hp1;have HP2:=h_ hp2;clear hp2;have HST:=h_ hst;clear hst e2 Od;have hn:((i:Int)+1)=((i+1:Nat):Int):=by omega
  have hwr:IntKind.i64.wrap ((i:Int)+1)=((i+1:Nat):Int):=by rw[hn];exact IntWalk.i64_in _ (by omega)
  have hin2:(((i+1:Nat):Int))<=N:=by omega
  have hii:(i:Int)<=N:=by omega
  generalize i+1=i1 at e4 hwr hin hin2;clear hn;have IM:=h_ (show ∀W,Below w1.heap.size w1 W->Below w.heap.size w W from fun W hW=>iK H4.out.bL hW)
  go_upto_region 5 with(first
   |(go_at_call 68;refine(mt.out _ (IM.out _ H6.out.bL)).mono ?_;rintro e w3 ⟨rfl,hb3⟩;have H63:=h_ (H6.out.below hb3);clear hb3)
   |fail)
  clear H6 mt
  go_upto_region 6 with(first
   |(go_at_call 132;refine(Ca.out _).mono ?_;rintro e w4 ⟨rfl,hb4⟩;have Ua:=h_ (H63.out.below hb4);clear hb4)
   |(refine oX rfl 9 (.tmp 30) (.tmp 29) rfl w1 (w.heap.size+1) 151 (bW A0) Ua.out 0 (S u) rfl rfl (by rw[gd rfl];decide) bU.1 rfl (bW {A0 with user:=u}) (Pm A0 u) ?_;intro w5 i5 _ _;have Oz:=h_ i5;clear i5)
   |fail)
  clear H63 Ua Ca
  go_upto_region 7 with(first
   |(go_at_call 132;refine(HP2.out _).mono ?_;rintro e w6 ⟨rfl,hb6⟩;have XK:=h_ (Oz.out.below hb6);clear hb6)
   |(refine oX rfl 9 (.tmp 33) (.tmp 32) rfl w1 (w.heap.size+1) 151 (bW {A0 with user:=u}) XK.out 1 (S p) rfl rfl (by rw[gd rfl];decide) bU.1 rfl (bW {A0 with user:=u,pass:=p}) (Pk {A0 with user:=u} p) ?_;intro w7 i7 _ _;have Uw:=h_ i7;clear i7)
   |fail)
  clear Oz XK HP2;by_cases hrn:rest=[]
  ·have hst:=HST.out
   rw[if_pos hrn]at hst;have he:=hre.mpr hrn;have he1:r.toList.isEmpty=true:=by rw[he];rfl
   have hR:=HR.out;rw[hst]at hR;have kC:=h_ (show R=none from hR);have Fz:=h_ (H4.out.below (Uw.out.bL));clear hst hR hre
   go_wp2_with (first
    |(refine SX rfl (.tmp 4) (.tmp 40) rfl w w.heap.size A0 A0 Fz.out rfl rfl rfl rfl ?_;intro w8 i8;have FA:=h_ i8;clear i8)
    |fail)
   exact Pc rfl rfl FA.out rfl (by rw[kC.out];rfl) (by rw[kC.out];rfl)
  have hst:=HST.out;rw[if_neg hrn]at hst;have he:¬ r.toList=[]:=fun h=>hrn (hre.mp h);have he1:r.toList.isEmpty=false:=by simpa using he
  have OQ:=h_ hst;clear hst hre
  go_wp2_with fail
  go_meet
  case rel=>exact⟨rest,u,p,OQ.out,by rw[HRR.out],Uw.out⟩
 case rest =>
  obtain⟨s2,u,p,hst,rfl,h6⟩:=hcut;clear H6 Od UY U7 Cq HS HNL p7 lk;have hl2:=Ip hst;have OR:=h_ hst;have hR:=HR.out;rw[hst]at hR;replace hR:R=qu aH s2 u p:=hR;have hl3:s2.length<=307200000:=by have:=HL.out;omega
  rw[Kz]at hR;have hco:=fun W=>LG s2 W (by omega);have hnq:Oq s2=match nX false s2 with|none=>some (s2,[])|some k=>if s2.take k=[]then none else some (s2.take k,s2.drop (k+1)):=rfl
  have hnl:=fun n q (h:Oq s2=some (n,q))=>Hl h;have hcl:=fun k (h:nX false s2=some k)=>Jt false s2 k h;obtain⟨C,hC⟩:=az (nX false s2);rw[<-hC]at hnq hco hcl;clear hC;have HNQ:=h_ hnq;clear hnq;have HNL:=h_ hnl;clear hnl;have yj:=h_ hcl;clear hcl;have HRR:=h_ hR;clear hR hst HR;have H6:=h_ h6;clear h6;have HL3:=h_ hl3;clear hl3 hl2;obtain⟨s,hs⟩:=az (bs s2);have hsz:s.size=s2.length:=by rw[hs,aM]
  have hx1:∀ k,s.extract 0 k=bs (s2.take k):=fun k=>by rw[hs,bX,cU,qj]
  have hx2:∀ k,s.extract k s.size=bs (s2.drop k):=fun k=>by rw[hs,bX,aM,aP (by rw[ah];omega)]
  have HS:=h_ hs;rw[<-hs]at hco ⊢;have HCO:=h_ hco;clear hco hs;obtain⟨N,hN⟩:=az (s.size);have lk:s.size=N:=hN.symm;rw[lk]at hx2;have p7:N<=307200000:=by have:=HL3.out;omega
  have ou:N=s2.length:=by omega
  have UY:=h_ hx1;clear hx1;have U7:=h_ hx2;clear hx2;have Cr:=h_ ou;clear ou hN hsz
  go_upto_if 45 with(first
   |(go_at_call 167;refine(HCO.out _).mono ?_;rintro e w3 ⟨rfl,hw3⟩;subst hw3)
   |fail)
  go_cut [11,12] (fun nv pv wx=>∃ n q,Oq s2=some (n,q)∧nv=.string (bs n)∧pv=.string (bs q)∧Hid (OB w1 (w.heap.size+1) 151 (bW {A0 with user:=u,pass:=p}) wx))
  case first =>
   cases C with
   |none =>
    have HQ:=h_ (show Oq s2=some (s2,[])from HNQ.out);have hm1:¬ (0:Int)<=-1:=by omega
    simp only[a1l]
    go_wp2_with fail
    go_meet
    case rel=>exact⟨s2,[],HQ.out,by rw[HS.out],rfl,H6.out⟩
   |some k =>
    have hlt:=yj.out k rfl;have hnq:Oq s2=if s2.take k=[]then none else some (s2.take k,s2.drop (k+1)):=HNQ.out;have e3:=UY.out k;have e4:=U7.out (k+1);have hn:((k:Int)+1)=((k+1:Nat):Int):=by omega
    have hkN:k+1<=N:=by have:=Cr.out;omega
    have hwr:IntKind.i64.wrap ((k:Int)+1)=((k+1:Nat):Int):=by rw[hn];exact IntWalk.i64_in _ (by omega)
    have hin2:(((k+1:Nat):Int))<=N:=by omega
    have hii:(k:Int)<=N:=by omega
    obtain⟨nm,hnm⟩:=az (bs (s2.take k));obtain⟨qq,hqq⟩:=az (bs (s2.drop (k+1)));have hre:nm.toList=[] ↔ s2.take k=[]:=by rw[hnm,ay]
    rw[<-hnm]at e3;rw[<-hqq]at e4;have om:=h_ hnm;clear hnm;have HQQ:=h_ hqq;clear hqq;generalize s2.take k=n at hnq hre om;generalize s2.drop (k+1)=q at hnq HQQ;generalize k+1=k1 at e4 hwr hin2 hkN;clear hn hlt;have a20:=h_ hnq;clear hnq;simp only[a1l];by_cases hrn:n=[]
    ·have hst:=a20.out
     rw[if_pos hrn]at hst;have he:=hre.mpr hrn;have he1:nm.toList.isEmpty=true:=by rw[he];rfl
     have hR:=HRR.out;rw[hst]at hR;have kC:=h_ (show R=none from hR);clear hst hR hre
     go_wp2_with fail
     go_quiet (fail)
     have H62:=h_ (H6.out.below (rA (n:=nq) (bz _)));have Fz:=h_ (H4.out.below (H62.out.bL))
     go_wp2_with (first
      |(refine SX rfl (.tmp 4) (.tmp 55) rfl w w.heap.size A0 A0 Fz.out rfl rfl rfl rfl ?_;intro w8 i8;have FA:=h_ i8;clear i8)
      |fail)
     exact Pc rfl rfl FA.out rfl (by rw[kC.out];rfl) (by rw[kC.out];rfl)
    have hst:=a20.out;rw[if_neg hrn]at hst;have he:¬ nm.toList=[]:=fun h=>hrn (hre.mp h);have he1:nm.toList.isEmpty=false:=by simpa using he
    have OQ:=h_ hst;clear hst hre
    go_wp2_with fail
    go_quiet (fail)
    have H62:=h_ (H6.out.below (rA (n:=nq) (bz _)))
    go_wp2_with fail
    go_meet
    case rel=>exact⟨n,q,OQ.out,by rw[om.out],by rw[HQQ.out],H62.out⟩
  case rest =>
   obtain⟨n,q,hst,rfl,rfl,h6⟩:=hcut;clear H6 HNQ yj UY U7 HCO HS Cr p7 lk;have hnl:=HNL.out n q hst;have hR:=HRR.out;rw[hst]at hR;replace hR:R=yz aH n q u p:=hR;have hl3:n.length<=307200000∧q.length<=307200000:=by have:=HL3.out;omega
   have hho:=fun W (hW:Below w.heap.size w W)=>wI n (eK aH) W (HSH.out s2 u p n q OR.out hst) (HE.out.below hW);have hpo:=fun W=>FE.out q W (by omega);unfold yz at hR;have h8:=fun g (h:dh n (eK aH)=some g)=>(oN (hkind h)).l;generalize eK aH=SP at *;obtain⟨HO,hHO⟩:=az (dh n SP);obtain⟨PO,hPO⟩:=az (Om aH q);rw[<-hHO]at hR hho h8;rw[<-hPO]at hR hpo;clear hHO hPO hst HNL HRR FE hnl hl3 HL3;obtain⟨nb,hnb⟩:=az (bs n);obtain⟨qb,hqb⟩:=az (bs q);rw[<-hnb]at hho ⊢;rw[<-hqb]at hpo ⊢;clear hnb hqb;have IM:=h_ (show ∀W,Below w1.heap.size w1 W->Below w.heap.size w W from fun W hW=>iK H4.out.bL hW);have HP:=h_ hpo;clear hpo;have H6:=h_ h6;clear h6;cases HO with
   |none =>
    have HH:=h_ (show ∀W,Below w.heap.size w W->bN prog 160 #[.string nb,.bool SP] W (.tuple #[.agg (cd H0),.bool false])from hho);have HR:=h_ (show R=none from hR);clear hho hR h8
    go_upto_region 17 with(first
     |(go_at_call 96;refine(j0.out _).mono ?_;rintro e w3 ⟨rfl,hw3⟩;subst hw3)
     |(go_at_call 160;refine(HH.out _ (IM.out _ H6.out.bL)).mono ?_;rintro e w4 ⟨rfl,hb4⟩;have Ua:=h_ (H6.out.below hb4);clear hb4)
     |(refine aS rfl 27 rfl _ _ (ro _) ?_)
     |(refine BL rfl (.tmp 14) (.tmp 61) rfl H0 rfl rfl rfl rfl ?_;intro W2 hh hb;have HHB:=h_ hh;have Oz:=h_ (Ua.out.below hb);clear hh hb)
     |fail)
    have Fz:=h_ (H4.out.below (Oz.out.bL))
    go_wp2_with (first
     |(refine SX rfl (.tmp 4) (.tmp 65) rfl w w.heap.size A0 A0 Fz.out rfl rfl rfl rfl ?_;intro w8 i8;have FA:=h_ i8;clear i8)
     |fail)
    exact Pc rfl rfl FA.out rfl (by rw[HR.out];rfl) (by rw[HR.out];rfl)
   |some g =>
    have HH:=h_ (show ∀W,Below w.heap.size w W->bN prog 160 #[.string nb,.bool SP] W (.tuple #[.agg (cd g),.bool true])from hho);have G8:=h_ (h8 g rfl);clear hho h8;dsimp only at hR
    go_upto_region 17 with(first
     |(go_at_call 96;refine(j0.out _).mono ?_;rintro e w3 ⟨rfl,hw3⟩;subst hw3)
     |(go_at_call 160;refine(HH.out _ (IM.out _ H6.out.bL)).mono ?_;rintro e w4 ⟨rfl,hb4⟩;have Ua:=h_ (H6.out.below hb4);clear hb4)
     |(refine aS rfl 27 rfl _ _ (ro _) ?_)
     |(refine BL rfl (.tmp 14) (.tmp 61) rfl g G8.out rfl rfl rfl ?_;intro W2 hh hb;have HHB:=h_ hh;have Oz:=h_ (Ua.out.below hb);clear hh hb)
     |fail)
    clear H6 Ua
    go_upto_region 20 with(first
     |(refine Sd (by rfl) (.tmp 14) rfl _ g HHB.out rfl ?_)
     |(refine Nd rfl 27 (.tmp 67) (.tmp 66) rfl w1 (w.heap.size+1) 151 (bW {A0 with user:=u,pass:=p}) Oz.out 2 (aZ g) rfl rfl (by rw[gd rfl];simp[aZ,G8.out]) (by rw[jQ];simp[aZ,G8.out]) kM (bW {A0 with user:=u,pass:=p,host:=g}) (Pj {A0 with user:=u,pass:=p} g G8.out rfl) ?_;intro w5 i5;have XK:=h_ i5;clear i5)
     |fail)
    clear Oz HHB;cases PO with
    |none =>
     have HP:=h_ (show ∀W,bV prog 168 #[.string ss,.string qb] W (.tuple #[.int .i64 0,.bool false,.bool false])from HP.out);have HR:=h_ (show R=none from hR);clear hR
     go_upto_region 21 with(first
      |(go_at_call 168;refine(HP.out _).mono ?_;rintro e w6 ⟨rfl,GJ⟩;subst GJ)
      |(refine oX rfl 3 (.tmp 75) (.tmp 72) rfl w1 (w.heap.size+1) 151 (bW {A0 with user:=u,pass:=p,host:=g}) XK.out 14 (.int .i64 0) rfl rfl (by rw[gd G8.out];decide) bU.2.1 rfl (bW {A0 with user:=u,pass:=p,host:=g,port:=0}) (CJ {A0 with user:=u,pass:=p,host:=g} 0 G8.out) ?_;intro w7 i7 _ _;have Uw:=h_ i7;clear i7)
      |(refine oX rfl 4 (.tmp 76) (.tmp 73) rfl w1 (w.heap.size+1) 151 (bW {A0 with user:=u,pass:=p,host:=g,port:=0}) Uw.out 13 (.bool false) rfl rfl (by rw[gd G8.out];decide) bU.2.2 rfl (bW {A0 with user:=u,pass:=p,host:=g,port:=0,bq:=false}) (Ji {A0 with user:=u,pass:=p,host:=g,port:=0} false G8.out) ?_;intro w8 i8 _ _;have XL:=h_ i8;clear i8)
      |fail)
     have Fz:=h_ (H4.out.below (XL.out.bL))
     go_wp2_with (first
      |(refine SX rfl (.tmp 4) (.tmp 79) rfl w w.heap.size A0 A0 Fz.out rfl rfl rfl rfl ?_;intro w8 i8;have FA:=h_ i8;clear i8)
      |fail)
     exact Pc rfl rfl FA.out rfl (by rw[HR.out];rfl) (by rw[HR.out];rfl)
    |some v =>
     obtain⟨v,b⟩:=v;have HP:=h_ (show ∀W,bV prog 168 #[.string ss,.string qb] W (.tuple #[.int .i64 v,.bool b,.bool true])from HP.out);have HR:=h_ (show R=some {A0 with user:=u,pass:=p,host:=g,port:=v,bq:=b}from hR);clear hR
     go_upto_region 21 with(first
      |(go_at_call 168;refine(HP.out _).mono ?_;rintro e w6 ⟨rfl,GJ⟩;subst GJ)
      |(refine oX rfl 3 (.tmp 75) (.tmp 72) rfl w1 (w.heap.size+1) 151 (bW {A0 with user:=u,pass:=p,host:=g}) XK.out 14 (.int .i64 v) rfl rfl (by rw[gd G8.out];decide) bU.2.1 rfl (bW {A0 with user:=u,pass:=p,host:=g,port:=v}) (CJ {A0 with user:=u,pass:=p,host:=g} v G8.out) ?_;intro w7 i7 _ _;have Uw:=h_ i7;clear i7)
      |(refine oX rfl 4 (.tmp 76) (.tmp 73) rfl w1 (w.heap.size+1) 151 (bW {A0 with user:=u,pass:=p,host:=g,port:=v}) Uw.out 13 (.bool b) rfl rfl (by rw[gd G8.out];decide) bU.2.2 rfl (bW {A0 with user:=u,pass:=p,host:=g,port:=v,bq:=b}) (Ji {A0 with user:=u,pass:=p,host:=g,port:=v} b G8.out) ?_;intro w8 i8 _ _;have XL:=h_ i8;clear i8)
      |fail)
     obtain⟨A1,hA1⟩:∃ A1:mq,A1={A0 with user:=u,pass:=p,host:=g,port:=v,bq:=b}:=⟨_,rfl⟩;have h18:A1.host.six.length=8:=by rw[hA1];exact G8.out
     rw[<-hA1]at XL;have HR2:=h_ (show R=some A1 by rw[hA1];exact HR.out);clear hA1 HR;have H18:=h_ h18;clear h18;have Fz:=h_ (H4.out.below (XL.out.bL))
     go_wp2_with (first
      |(refine DH rfl 151 (.tmp 6) rfl w1 (w.heap.size+1) 151 (bW A1) XL.out _ rfl underlying151 rfl (by rw[gd H18.out];exact rv) ?_)
      |(refine SX rfl (.tmp 4) (.tmp 80) rfl w w.heap.size A0 A1 Fz.out rfl H18.out rfl rfl ?_;intro w8 i8;have FA:=h_ i8;clear i8)
      |fail)
     exact Pc rfl rfl FA.out H18.out (by rw[HR2.out];rfl) (by rw[HR2.out];rfl)

structure CB (W:World) (b:Nat) (T:TypeId) (cs:Array Value):Prop where
 a:W.heap[b]? = some (.cells cs T (0,0))
section
variable {W W':World} {b:Nat} {T:TypeId} {cs:Array Value}
theorem CB.lt(i:CB W b T cs):b<W.heap.size:=(bQ.1 i.a).1
theorem CB.keep(i:CB W b T cs)(hb:Below W.heap.size W W'):CB W' b T cs:=⟨(hb.block b i.lt).trans i.a⟩
theorem CB.new(W:World)(T:TypeId)(cs:Array Value):CB (W.alloc (.cells cs T)) W.heap.size T cs:=⟨heap_alloc_new W _⟩
theorem CB.cell(i:CB W b T cs)(j:Nat):W.cell? ⟨b,j,none⟩=cs[j]?:=by simp[World.cell?,i.a]
theorem CB.aF(i:CB W b T cs){j:Nat}{v:Value}(h:cs[j]? = some v):W.cell? ⟨b,j,none⟩=some v:=(i.cell j).trans h
theorem CB.range(i:CB W b T cs){o:Nat}{vs:List Value}(h:∀ j v,vs[j]? = some v->cs[o+j]? = some v):W.rangeAt b o vs:=fun j v hj=>i.aF (h j v hj)
theorem CB.load{P:Program}(i:CB W b T cs)(ty:TypeId)(d:TypeDesc)(hu:P.underlying ty=some d)(hd:(match d with | .struct _ | .array _ _=>true|_=>false)=true)(hi:(P.info? ty).map (·.size)=some cs.size):(loadVar ty ⟨b,0,none⟩).run P W=.ok (.agg cs) W :=
 run_loadVar_row (P:=P) W b T ty cs (0,0) d i.a hu hd hi
end
section
variable {P:Program} {ops:Array Oper} {rest:List Oper} {o:Oper} {a:Act} {w:World} {Q:Exit->Act->World->Prop}
theorem mg{W:World}(hg:o.guard=none)(T:TypeId)(x y:Operand)(ho:o.op=.store T x y)(cs old:Array Value)(hi:(P.info? T).map (·.size)=some cs.size)(hold:old.size=cs.size)(h1:cs.all (·.oneCell')=true)
  (hW:W=w.alloc (.cells old T)) (hx:a.eval x=.pointer (some ⟨w.heap.size,0,none⟩)) (hy:a.eval y=.agg cs)
  (k:∀ w',CB w' w.heap.size T cs->Below w.heap.size w w'->wpList P ops Q rest (a.put o.dst undef) w'):wpList P ops Q (o::rest) a W:=by
 subst hW;exact gD hg T x y ho cs old T hx hy hi hold h1 (k _ (CB.new w T cs) ((Below.refl _ _).alloc (af _) _))
theorem iW(T:TypeId)(x:Operand)(ho:o.op=.load T x)(b:Nat)(cs:Array Value)(d:TypeDesc)(hu:P.underlying T=some d)(hd:(match d with | .struct _ | .array _ _=>true|_=>false)=true)(hi:(P.info? T).map (·.size)=some cs.size)
  (hx:a.eval x=.pointer (some ⟨b,0,none⟩)) (i:CB w b T cs):(execOp a.eval o).run P w=.ok (.value (.agg cs)) w:=by
 have e:=i.load (P:=P) T d hu hd hi;unfold execOp;simp only[ho,hx,Instr.loadAt,Instr.sureAddr,Sem.run_bind,Sem.run_pure,Result.andThen_ok,e]
theorem Sc(hg:Region.wanted o (yielded ops a.tmps)=true)(T:TypeId)(x:Operand)(ho:o.op=.load T x)(b:Nat)(cs:Array Value)(d:TypeDesc)(hu:P.underlying T=some d)(hd:(match d with | .struct _ | .array _ _=>true|_=>false)=true)(hi:(P.info? T).map (·.size)=some cs.size)
  (hx:a.eval x=.pointer (some ⟨b,0,none⟩)) (i:CB w b T cs) (k:wpList P ops Q rest (a.put o.dst (.agg cs)) w):wpList P ops Q (o::rest) a w :=
 Ac hg (.agg cs) (iW T x ho b cs d hu hd hi hx i) k
theorem iX(T:TypeId)(x:Operand)(ho:o.op=.load T x)(b k:Nat)(vs:List Value)(d:TypeDesc)(hu:P.underlying T=some d)(hd:d.isRow=true)(hi:(P.info? T).map (·.size)=some vs.length)
  (hx:a.eval x=.pointer (some ⟨b,k,none⟩)) (hr:w.rangeAt b k vs):(execOp a.eval o).run P w=.ok (.value (.agg vs.toArray)) w:=by
 have e:=run_loadVar_mid (P:=P) w b k T vs d hr hu hd hi;unfold execOp;simp only[ho,hx,Instr.loadAt,Instr.sureAddr,Sem.run_bind,Sem.run_pure,Result.andThen_ok,e]
theorem bK(T:TypeId)(x:Operand)(ho:o.op=.load T x)(b k:Nat)(v:Value)(d:TypeDesc)(hu:P.underlying T=some d)(hd:(match d with | .struct _ | .array _ _=>true|_=>false)=false)
  (hx:a.eval x=.pointer (some ⟨b,k,none⟩)) (hc:w.cell? ⟨b,k,none⟩=some v):(execOp a.eval o).run P w=.ok (.value v) w:=by
 have hagg:(isAgg T).run P w=.ok false w:=by
  unfold isAgg;rw[Sem.run_bind,run_underlying hu w];cases d <;>simp_all
 unfold execOp;simp only[ho,hx,Instr.loadAt,Instr.sureAddr,Sem.run_bind,Sem.run_pure,Result.andThen_ok];have hl:(loadVar T ⟨b,k,none⟩).run P w=.ok v w:=by simp[loadVar,Sem.run_bind,hagg,hc]
 rw[hl];rfl
end
section
variable {ops:Array Oper} {rest:List Oper} {o:Oper} {a:Act} {w:World} {Q:Exit->Act->World->Prop}
theorem Tq{W:World}(hg:o.guard=none)(x y:Operand)(ho:o.op=.store 151 x y)(h:mq)(hl:h.host.six.length=8)(hW:W=w.alloc (.cells (bW A0) 151))(hx:a.eval x=.pointer (some ⟨w.heap.size,0,none⟩))(hy:a.eval y=.agg (bW h))
  (k:∀ w',CB w' w.heap.size 151 (bW h)->Below w.heap.size w w'->wpList prog ops Q rest (a.put o.dst undef) w'):wpList prog ops Q (o::rest) a W :=
 mg hg _ x y ho (bW h) (bW A0) (by rw[gd hl];exact rv) (by rw[gd hl];rfl) (all_oneCell_toArray Jj) hW hx hy k
end
theorem ath_six{aH l:Bytes}:((kg aH l).getD A0).host.six.length=8:=by
 cases h:kg aH l with
 |none=>rfl
 |some a =>
  obtain⟨⟨n,hh,_⟩,_⟩:=Jk h;exact(oN (hkind hh)).l

abbrev ai(pv:Value)(u:Url):Array Value:=(aV pv u).toArray
abbrev aR:Value:=.slice none 0 0
theorem iI:(prog.info? 30).map (·.size)=some 23:=by kernel_rfl
theorem pm{pv:Value}{u:Url}(h:u.host.six.length=8):(aV pv u).length=23:=by simp[aV,aZ,h]
theorem jX{pv:Value}{u:Url}(h:u.host.six.length=8):(ai pv u).size=23:=by rw[eJ,pm h]
theorem xX{pv:Value}{u:Url}(h1:pv.oneCell'=true):∀ v∈aV pv u,v.oneCell'=true:=by
 intro v hv;simp only[aV,au,aj,bl,or_false]at hv;rcases hv with((e|e|e)|e)|e|e|e|e|e|e|e|e|e
 all_goals first|exact kM v e|(rw[e];first|rfl|exact h1)
theorem ef(w:World):(Instr.alloc 30 true (Value.tuple #[])).run prog w=.ok (.pointer (some ⟨w.heap.size,0,none⟩)) (w.alloc (.cells (ai aR U0) 30)):=by kernel_rfl
structure UAt (cs:Array Value) (pv:Value) (u:Url):Prop where
 aH:cs[0]? = some (S u.aH)
 usr:cs[1]? = some (S u.usr)
 fp:cs[2]? = some (S u.fp)
 kind:cs[3]? = some (.int .i64 u.host.kind)
 name:cs[4]? = some (S u.host.name)
 bq:cs[14]? = some (.bool u.bq)
 port:cs[15]? = some (.int .i64 u.port)
 opq:cs[16]? = some (.bool u.opq)
 flat:cs[17]? = some (S u.flat)
 path:cs[18]? = some pv
 bS:cs[19]? = some (.bool u.bS)
 q:cs[20]? = some (S u.q)
 bZ:cs[21]? = some (.bool u.bZ)
 f:cs[22]? = some (S u.f)
 host:∀ j v,(aZ u.host)[j]? = some v->cs[3+j]? = some v
theorem uF(pv:Value)(u:Url)(h:u.host.six.length=8):UAt (ai pv u) pv u:=by
 have hh:∀ j v,(aZ u.host)[j]? = some v->(ai pv u)[3+j]? = some v:=by
  intro j v hj;have hl:=(bf.1 hj).1;rw[bT];unfold aV;rw[aT,cu (by simp),cH (by simp;omega)]
  simpa using hj
 obtain⟨aH,usr,fp,⟨hk,hn,hf,six⟩,a1,a2,a3,a4,a5,a6,a7,a8,a9⟩:=u;simp only at h;obtain⟨a,b,c,d,e,f,g,i,rfl⟩:=eight h;exact⟨rfl,rfl,rfl,rfl,rfl,rfl,rfl,rfl,rfl,rfl,rfl,rfl,rfl,rfl,hh⟩
structure a8G (pv:Value) (u:Url):Prop where
 usr:∀ x,(ai pv u).setIfInBounds 1 (S x)=ai pv {u with usr:=x}
 fp:∀ x,(ai pv u).setIfInBounds 2 (S x)=ai pv {u with fp:=x}
 kind:∀ k,(ai pv u).setIfInBounds 3 (.int .i64 k)=ai pv {u with host:={u.host with kind:=k}}
 bq:∀ x,(ai pv u).setIfInBounds 14 (.bool x)=ai pv {u with bq:=x}
 port:∀ x,(ai pv u).setIfInBounds 15 (.int .i64 x)=ai pv {u with port:=x}
 opq:∀ x,(ai pv u).setIfInBounds 16 (.bool x)=ai pv {u with opq:=x}
 flat:∀ x,(ai pv u).setIfInBounds 17 (S x)=ai pv {u with flat:=x}
 path:∀ v l,(ai pv u).setIfInBounds 18 v=ai v {u with path:=l}
 bS:∀ x,(ai pv u).setIfInBounds 19 (.bool x)=ai pv {u with bS:=x}
 q:∀ x,(ai pv u).setIfInBounds 20 (S x)=ai pv {u with q:=x}
 bZ:∀ x,(ai pv u).setIfInBounds 21 (.bool x)=ai pv {u with bZ:=x}
 f:∀ x,(ai pv u).setIfInBounds 22 (S x)=ai pv {u with f:=x}
theorem gw(pv:Value)(u:Url)(h:u.host.six.length=8):a8G pv u:=by
 obtain⟨aH,usr,fp,⟨hk,hn,hf,six⟩,a1,a2,a3,a4,a5,a6,a7,a8,a9⟩:=u;simp only at h;obtain⟨a,b,c,d,e,f,g,i,rfl⟩:=eight h;exact⟨fun _=>rfl,fun _=>rfl,fun _=>rfl,fun _=>rfl,fun _=>rfl,fun _=>rfl,fun _=>rfl,fun _ _=>rfl,fun _=>rfl,fun _=>rfl,fun _=>rfl,fun _=>rfl⟩
theorem tC(pv:Value)(u:Url)(g:ie)(g8:g.six.length=8)(h8:u.host.six.length=8):uz (ai pv u) 3 (aZ g)=ai pv {u with host:=g} :=
 rY (aZ g) [S u.aH,S u.usr,S u.fp] (aZ u.host) [.bool u.bq,.int .i64 u.port,.bool u.opq,S u.flat,pv,.bool u.bS,S u.q,.bool u.bZ,S u.f] (by simp[aZ,g8,h8])
section
variable {ops:Array Oper} {rest:List Oper} {o:Oper} {a:Act} {w:World} {Q:Exit->Act->World->Prop}
theorem fP{W:World}(hg:o.guard=none)(x y:Operand)(ho:o.op=.store 30 x y)(pv:Value)(u:Url)(hl:u.host.six.length=8)(h1:pv.oneCell'=true)(hW:W=w.alloc (.cells (ai aR U0) 30))(hx:a.eval x=.pointer (some ⟨w.heap.size,0,none⟩))(hy:a.eval y=.agg (ai pv u))
  (k:∀ w',CB w' w.heap.size 30 (ai pv u)->Below w.heap.size w w'->wpList prog ops Q rest (a.put o.dst undef) w'):wpList prog ops Q (o::rest) a W :=
 mg hg _ x y ho (ai pv u) (ai aR U0) (by rw[jX hl];exact iI) (by rw[jX hl];rfl) (all_oneCell_toArray (xX h1)) hW hx hy k
theorem Bk(x:Operand)(ho:o.op=.load 30 x)(b:Nat)(pv:Value)(u:Url)(hl:u.host.six.length=8)(hx:a.eval x=.pointer (some ⟨b,0,none⟩))(i:CB w b 30 (ai pv u)):(execOp a.eval o).run prog w=.ok (.value (.agg (ai pv u))) w :=
 iW _ x ho b (ai pv u) _ underlying30 rfl (by rw[jX hl];exact iI) hx i
theorem j7(hg:Region.wanted o (yielded ops a.tmps)=true)(x:Operand)(ho:o.op=.load 30 x)(b:Nat)(pv:Value)(u:Url)(hl:u.host.six.length=8)(hx:a.eval x=.pointer (some ⟨b,0,none⟩))(i:CB w b 30 (ai pv u))(k:wpList prog ops Q rest (a.put o.dst (.agg (ai pv u))) w):wpList prog ops Q (o::rest) a w :=
 Ac hg _ (Bk x ho b pv u hl hx i) k
end

theorem nz(c:Int)(w:World):bV prog 105 #[.int .u8 c] w (.bool (iP c)):=by
 have h:c<65∨(65<=c∧c<=90)∨(90<c∧c<97)∨(97<=c∧c<=122)∨122<c:=by omega
 rcases h with h|⟨h1,h2⟩|⟨h1,h2⟩|⟨h1,h2⟩|h
 all_goals
  go_enter func105,ntmps105
  go_wp2_with fail
  all_goals
   go_ret;refine⟨dX ?_,rfl⟩;unfold iP
   first
    |exact(decide_eq_true (p:=(65<=c∧c<=90)∨(97<=c∧c<=122)) (by omega)).symm
    |exact(decide_eq_false (p:=(65<=c∧c<=90)∨(97<=c∧c<=122)) (by omega)).symm
    |(rw[decide_eq_false (p:=(65<=c∧c<=90)∨(97<=c∧c<=122)) (by omega)];simp;omega)
theorem NP(c:Int)(w:World):bV prog 107 #[.int .u8 c] w (.bool (decide (c<=32))):=by
 go_enter func107,ntmps107
 go_wp2_with fail
 go_ret;exact⟨rfl,rfl⟩
def Fw(s:Bytes):Bytes:=(s.reverse.dropWhile jS).reverse
theorem KP(s:Bytes):trimF s=Fw (s.dropWhile jS):=rfl
theorem W7(s:Bytes)(c:UInt8):Fw (s++[c])=if jS c=true then Fw s else s++[c]:=by
 unfold Fw;rw[iD];show(List.dropWhile jS (c::s.reverse)).reverse=_;cases h:jS c with
 |true=>rw[aU h];rfl
 |false=>rw[bn (by simp[h])];simp
theorem a5S{s:Bytes}{k:Nat}(h:s.length=k+1):Fw s=if b2 (s[k]'(by omega))<=32 then Fw (s.take k)else s:=by
 have e:s=s.take k++[s[k]'(by omega)]:=by
  rw[<-List.take_succ_eq_append_getElem (by omega),aP (by omega)]
 have hr:=W7 (s.take k) (s[k]'(by omega));rw[<-e]at hr;rw[hr];unfold jS;by_cases hc:b2 (s[k]'(by omega))<=32
 ·rw[if_pos hc,if_pos (by simpa using hc)]
 rw[if_neg hc,if_neg (by simpa using hc)]
theorem Wt{s:Bytes}(h:0<s.length):s.dropWhile jS=if b2 s[0]<=32 then(s.drop 1).dropWhile jS else s:=by
 cases s with
 |nil=>cases h
 |cons c t =>
  show List.dropWhile jS (c::t)=if b2 c<=32 then t.dropWhile jS else c::t;by_cases hc:b2 c<=32
  ·rw[if_pos hc,aU (by unfold jS;simpa using hc)]
  rw[if_neg hc,bn (by unfold jS;simpa using hc)]
theorem jy(t:Bytes)(k n:Nat)(h:n=t.length):(bs t).extract k n=bs (t.drop k):=by
 rw[bX,h,aP (by rw[ah];omega)]
theorem sL(t:Bytes)(k:Nat):(bs t).extract 0 k=bs (t.take k):=by
 rw[bX,cU,qj]
theorem Fh(l:Bytes)(w:World)(hl:l.length<=1024000000):bV prog 106 #[.string (bs l),.func (Fn.func 107) #[] #[]] w (S (trimF l)):=by
 rw[KP];obtain⟨L,hL⟩:=az (l.dropWhile jS)
 have hLl:L.length<=l.length:=by
  obtain⟨a,ha⟩:=nl jS l;have:=congrArg List.length ha;rw[ae,<-hL]at this;omega
 rw[<-hL];have HL:=h_ hL;clear hL;have HT1:=h_ (fun c W=>NP c W);go_enter func106,ntmps106
 go_wp2_with fail
 go_loopw [0] (fun sv wr=>∃ t:Bytes,sv=.string (bs t)∧t.length<=1024000000∧Hid (L=t.dropWhile jS)∧w=wr) (fun sv _=>RZ sv)
 case atStart=>exact⟨l,rfl,hl,HL.out,rfl⟩
 case round =>
  obtain⟨t,rfl,htl,ht,rfl⟩:=hrel;obtain⟨s,hs⟩:=az (bs t);have hsz:s.size=t.length:=by rw[hs,aM]
  have hse:s.toList=t:=by rw[hs,ay]
  by_cases hn:t=[]
  ·have he:s.toList=[]:=by rw[hse,hn]
   have he1:s.toList.isEmpty=true:=by rw[he];rfl
   have hLn:L=[]:=by rw[ht.out,hn];rfl
   rw[<-hs];have HS:=h_ (show s=bs (Fw L) by rw[hs,hn,hLn];rfl);clear ht hse hn hs hsz
   go_wp2_with fail
   obtain⟨w2,hw2⟩:=az (w);have HW:=h_ hw2;rw[<-hw2];clear hw2
   go_loopw [0] (fun sv wr=>sv=.string s∧w2=wr) (fun sv _=>RZ sv)
   case atStart=>exact⟨rfl,rfl⟩
   case round =>
    obtain⟨rfl,rfl⟩:=hrel
    go_wp2_with fail
    go_ret;exact⟨by rw[HS.out];rfl,HW.out⟩
  have he:¬ s.toList=[]:=by rw[hse];exact hn
  have he1:s.toList.isEmpty=false:=by simpa using he
  have hpos:0<t.length:=kD.mpr hn;have h0s:0<s.size:=by omega
  have hx:((s[0]'h0s).toNat:Int)=b2 t[0]:=cJ hs h0s hpos;have hat:=Wt hpos;have hex:s.extract 1 s.size=bs (t.drop 1):=by rw[hs];exact jy t 1 _ (aM t)
  obtain⟨N,hN⟩:=az (s.size);have lk:s.size=N:=hN.symm;rw[lk]at hex h0s;have hNi:(1:Int)<=N:=by omega
  have h0i:(0:Int)<N:=by omega
  have hNt:N=t.length:=by omega
  rw[<-hs];obtain⟨X,hX⟩:=az (b2 t[0]);rw[<-hX]at hx hat;by_cases hc:X<=32
  ·rw[if_pos hc]at hat
   have hnx:L=(t.drop 1).dropWhile jS:=by rw[ht.out,hat]
   have hrl:(t.drop 1).length+1=N∧N<=1024000000:=by rw[ah];omega
   generalize t.drop 1=r at hnx hrl hex;have HNX:=h_ hnx;have US:=h_ hrl;clear hnx hrl;clear ht hat hX hse hn hs hsz hN hpos hNt htl
   go_wp2_with (first|(go_at_call 107;refine(HT1.out _ _).mono ?_;rintro e w3 ⟨rfl,hw3⟩;subst hw3)|fail)
   go_roundw
   case rel=>exact⟨r,rfl,by have:=US.out;omega,HNX.out,by first|rfl|trivial⟩
   case measure =>
    have:=US.out;show(bs r).size<s.size;rw[aM,lk];omega
  rw[if_neg hc]at hat;have hLt:L=t:=ht.out.trans hat;have HRT:=h_ (show Fw L=Fw t by rw[hLt]);have OQ:=h_ hs;have HT:=h_ htl;clear ht hat hX hse hn hsz hN hpos hNt htl hex hs hLt HL
  go_wp2_with (first|(go_at_call 107;refine(HT1.out _ _).mono ?_;rintro e w3 ⟨rfl,hw3⟩;subst hw3)|fail)
  obtain⟨w2,hw2⟩:=az (w3);have HW:=h_ hw2;rw[<-hw2];clear hw2
  go_loopw [0] (fun sv wr=>∃ t:Bytes,sv=.string (bs t)∧t.length<=1024000000∧Hid (Fw L=Fw t)∧w2=wr) (fun sv _=>RZ sv)
  case atStart=>exact⟨t,by rw[OQ.out],HT.out,HRT.out,rfl⟩
  case round =>
   clear HT HRT OQ hx lk hNi h0i h0s he he1 hc;obtain⟨t,rfl,htl,ht,rfl⟩:=hrel;obtain⟨s,hs⟩:=az (bs t);have hsz:s.size=t.length:=by rw[hs,aM]
   have hse:s.toList=t:=by rw[hs,ay]
   by_cases hn:t=[]
   ·have he:s.toList=[]:=by rw[hse,hn]
    have he1:s.toList.isEmpty=true:=by rw[he];rfl
    rw[<-hs];have HS:=h_ (show s=bs (Fw L) by rw[hs,ht.out,hn];rfl);clear ht hse hn hs hsz
    go_wp2_with fail
    go_ret;exact⟨by rw[HS.out];rfl,HW.out⟩
   have he:¬ s.toList=[]:=by rw[hse];exact hn
   have he1:s.toList.isEmpty=false:=by simpa using he
   have hpos:0<t.length:=kD.mpr hn;obtain⟨M,hM⟩:∃ M,t.length=M+1:=⟨t.length-1,by omega⟩;have hMs:M<s.size:=by omega
   have hx:((s[M]'hMs).toNat:Int)=b2 (t[M]'(by omega)):=cJ hs hMs (by omega);have hat:=a5S hM;have hex:s.extract 0 M=bs (t.take M):=by rw[hs];exact sL t M
   obtain⟨N,hN⟩:=az (s.size);have lk:s.size=N:=hN.symm;have hNM:N=M+1:=by omega
   have hMN:M<N:=by omega
   have hwr:IntKind.i64.wrap ((N:Int)-1)=(M:Int):=by rw[show(N:Int)-1=(M:Int) by omega];exact IntWalk.i64_in _ (by omega)
   have hMi:(M:Int)<N:=by omega
   have hMl:(M:Int)<=N:=by omega
   rw[<-hs];obtain⟨X,hX⟩:=az (b2 (t[M]'(by omega)));rw[<-hX]at hx hat;by_cases hc:X<=32
   ·rw[if_pos hc]at hat
    have hnx:Fw L=Fw (t.take M):=by rw[ht.out,hat]
    have hrl:(t.take M).length=M∧M<N∧N<=1024000001:=by rw[aE];omega
    generalize t.take M=r at hnx hrl hex;have HNX:=h_ hnx;have US:=h_ hrl;clear hnx hrl;clear ht hat hX hse hn hs hsz hN hpos htl hNM hM
    go_wp2_with (first|(go_at_call 107;refine(HT1.out _ _).mono ?_;rintro e w4 ⟨rfl,hw4⟩;subst hw4)|fail)
    go_roundw
    case rel=>exact⟨r,rfl,by have:=US.out;omega,HNX.out,by first|rfl|trivial⟩
    case measure =>
     have:=US.out;show(bs r).size<s.size;rw[aM,lk];omega
   rw[if_neg hc]at hat;have HS:=h_ (show s=bs (Fw L) by rw[hs,ht.out,hat]);clear ht hat hX hse hn hs hsz hN hpos htl hNM hM hex
   go_wp2_with (first|(go_at_call 107;refine(HT1.out _ _).mono ?_;rintro e w4 ⟨rfl,hw4⟩;subst hw4)|fail)
   go_ret;exact⟨by rw[HS.out];rfl,HW.out⟩

theorem TB(l:Bytes)(w:World)(hl:l.length<=1024000000):bV prog 72 #[.string (bs l)] w (S (trimF l)):=by
 have HW:=h_ (fun W=>Fh l W hl);obtain⟨s,hs⟩:=az (bs l);obtain⟨t,ht⟩:=az (bs (trimF l));have HW2:=h_ (show ∀W,bV prog 106 #[.string s,.func (Fn.func 107) #[] #[]] W (.string t)from by rw[hs,ht];exact HW.out);rw[<-hs];have HT:=h_ ht;clear hs ht HW;go_enter func72,ntmps72
 go_wp2_with fail
 refine(HW2.out _).mono ?_;rintro e w2 ⟨rfl,hw⟩;subst hw
 go_wp2_with fail
 go_ret;exact⟨by rw[HT.out];rfl,rfl⟩
theorem Ix{l:Bytes}{k:Nat}(h:k<l.length):iH (l.take (k+1))=if b2 l[k]=9∨b2 l[k]=10∨b2 l[k]=13 then iH (l.take k)else iH (l.take k)++[l[k]]:=by
 rw[aI h];unfold iH;rw[fX]
 have e9:(l[k]==9)=decide (b2 l[k]=9):=by
  rw[cK,beq_iff_eq,decide_eq_true_eq];exact⟨fun h=>by rw[h];decide,fun h=>fB (h.trans (by decide))⟩
 have e10:(l[k]==10)=decide (b2 l[k]=10):=by
  rw[cK,beq_iff_eq,decide_eq_true_eq];exact⟨fun h=>by rw[h];decide,fun h=>fB (h.trans (by decide))⟩
 have e13:(l[k]==13)=decide (b2 l[k]=13):=by
  rw[cK,beq_iff_eq,decide_eq_true_eq];exact⟨fun h=>by rw[h];decide,fun h=>fB (h.trans (by decide))⟩
 by_cases hc:b2 l[k]=9∨b2 l[k]=10∨b2 l[k]=13
 ·rw[if_pos hc,bj (by
   rw[e9,e10,e13];rcases hc with h|h|h <;>simp[h]),px,aG]
 rw[if_neg hc,bk (by
  rw[e9,e10,e13];simp only[not_or]at hc;simp[hc.1,hc.2.1,hc.2.2]),px]
theorem z7(l:Bytes):(iH l).length<=l.length:=eZ _ _
theorem NM(l:Bytes)(w:World)(hl:l.length<=1024000000):bN prog 71 #[.string (bs l)] w (S (iH l)):=by
 obtain⟨i8,tT,Ch,mK,n9⟩:=info_parts j8;obtain⟨s,hs⟩:=az (bs l);have hsz:s.size=l.length:=by rw[hs,aM]
 have hby:∀ k (hk:k<s.size) (hk2:k<l.length),((s[k]'hk).toNat:Int)=b2 l[k]:=fun k hk hk2=>cJ hs hk hk2;rw[<-hs];clear hs;obtain⟨N,hN⟩:=az (s.size);have lk:s.size=N:=hN.symm;have p7:N<=1024000000:=by omega
 have kd:=h_ hby;clear hby;have fL:=h_ hsz;clear hsz hl hN;go_enter func71,ntmps71
 go_wp2_with fail
 obtain⟨w1,hr,hown0,hgr⟩:=run_make_own (P:=prog) w w.heap.size 50 5 i8 (.int .u8 0) 1 underlying50 tT Ch mK .i64 .i64 N (by rw[n9];omega) (ap p7 (by decide)) (af _);have hb1:Below w.heap.size w w1:=⟨hgr.os,hgr.tape,hgr.output,hgr.size,fun k hk=>hgr.block k hk (by simp)⟩;have HO0:=h_ hown0;clear hown0;have HB1:=h_ hb1;clear hb1 hgr;rw[hr];clear hr
 go_wp2_with fail
 go_loopw [3,11] (fun ov iv wr=>∃ (k:Nat),k<=N∧iv=.int .i64 k∧Hid (wr.ownsRow w.heap.size 5 1 ov (iH (l.take k)).length (Lib.byteCells (iH (l.take k))))∧Hid (Below w.heap.size w wr)) (fun _ i _=>N-(intOf i).toNat)
 case atStart=>exact⟨0,by omega,by simp,HO0.out,HB1.out⟩
 case round =>
  obtain⟨k,hk,rfl,HO,HB⟩:=hrel;by_cases hlt:k<N
  ·have nS:k<s.size:=by omega
   have hkl:k<l.length:=by have:=fL.out;omega
   have hx:=kd.out k nS hkl;have htk:=Ix hkl;have htl:=z7 (l.take k);rw[aE]at htl;have hwz:w.heap.size<=wr.heap.size:=HB.out.size;have hbc:=fun o:Bytes=>(dV o l[k]).symm;obtain⟨X,hX⟩:∃ X:Int,X=b2 l[k]:=⟨_,rfl⟩;rw[<-hX]at hx htk hbc;clear hX;obtain⟨o,ho⟩:=az (iH (l.take k));rw[<-ho]at htk htl HO;obtain⟨al,hal⟩:=az (o.length);have hown:=HO.out;rw[<-hal]at hown htl;have yn:=h_ hown;clear hown HO ho;by_cases hc:X=9∨X=10∨X=13
   ·rw[if_pos hc]at htk
    have OM:=h_ (show wr.ownsRow w.heap.size 5 1 _ (iH (l.take (k+1))).length (Lib.byteCells (iH (l.take (k+1)))) by rw[htk,<-hal];exact yn.out);clear htk hal hbc htl yn;rcases hc with rfl|rfl|rfl
    all_goals
     go_wp2_with fail
     go_roundw
     case rel=>exact⟨k+1,by omega,by simp,OM.out,HB.out⟩
     case measure=>simp[intOf];omega
   rw[if_neg hc]at htk;have yr:=h_ htk;have pp:=h_ hal;have HBC:=h_ (hbc o);have e9:(X==9)=false:=by simpa using fun h=>hc (.inl h)
   have e10:(X==10)=false:=by simpa using fun h=>hc (.inr (.inl h))
   have e13:(X==13)=false:=by simpa using fun h=>hc (.inr (.inr h))
   clear htk hal hbc hc
   go_wp2_with (first|(at_builtin;(refine eO rfl (.tmp 18) (.tmp 20) _ rfl w.heap.size 5 i8 (.int .u8 0) 1 underlying50 tT Ch mK n9 (by decide) _ _ _ (Lib.byteCells o) rfl yn.out (.int .u8 X) rfl rfl (by omega) (by decide) (by omega) ?_);intro v2 w2 hown2 hw2 hb2;have fg:=h_ hown2;clear hown2;have HB2:=h_ hb2;clear hb2)|fail)
   go_roundw
   case rel =>
    refine⟨k+1,by omega,by simp,?_,HB.out.trans HB2.out⟩;have h:=fg.out;rw[yr.out,ae,<-pp.out,<-HBC.out];exact h
   case measure=>simp[intOf];omega
  obtain rfl:k=N:=by omega
  have htk:l.take k=l:=aP (by have:=fL.out;omega);rw[htk]at HO;have kc:=ki (P:=prog) underlying50 underlying5 underlying9 HO.out;obtain⟨t,ht⟩:=az (bs (iH l));rw[<-ht]at kc;have HT:=h_ ht;clear HO htk ht
  go_wp2_with fail
  go_ret;exact⟨by rw[HT.out];rfl,HB.out⟩
theorem tA(l:Bytes):(trimF l).length<=l.length:=by
 rw[KP];obtain⟨a,ha⟩:=nl jS l;have h1:=congrArg List.length ha;rw[ae]at h1;unfold Fw;rw[iC];obtain⟨b,hb⟩:=nl jS (l.dropWhile jS).reverse;have h2:=congrArg List.length hb;rw[ae,iC]at h2;omega
theorem yU(l:Bytes)(w:World)(hl:l.length<=1024000000):bN prog 34 #[.string (bs l)] w (S (eh l)):=by
 have h1:=fun W=>TB l W hl;have h2:=fun W=>NM (trimF l) W (by have:=tA l;omega);obtain⟨s,hs⟩:=az (bs l);obtain⟨t,ht⟩:=az (bs (trimF l));obtain⟨r,hr⟩:=az (bs (eh l));have H1:=h_ (show ∀W,bV prog 72 #[.string s] W (.string t)from by rw[hs,ht];exact h1);have H2:=h_ (show ∀W,bN prog 71 #[.string t] W (.string r)from by rw[ht,hr];exact h2);rw[<-hs];have HR:=h_ hr;clear hs ht hr h1 h2;go_enter func34,ntmps34
 go_wp2_with (first
  |(go_at_call 72;refine(H1.out _).mono ?_;rintro e w2 ⟨rfl,hw⟩;subst hw)
  |(go_at_call 71;refine(H2.out _).mono ?_;rintro e w3 ⟨rfl,hb⟩;have HB:=h_ hb;clear hb)
  |fail)
 go_ret;exact⟨by rw[HR.out];rfl,HB.out⟩

theorem Qb(c:Int):(fI c 10<0)=¬ (48<=c∧c<=57):=by
 have h:=Jy c;unfold fI at *;simp only at *;by_cases h1:48<=c∧c<=57
 ·rw[if_pos h1]at *
  simp[h1]
  split <;>omega
 rw[if_neg h1]at *;simp only[h1,not_false_eq_true,eq_iff_iff,iff_true]
 split <;>(try split) <;>(try split) <;>omega
theorem a1w{l:Bytes}{k:Nat}(h:k<l.length):(l.drop k).all (fun y=>lL (b2 y))=(lL (b2 l[k])&&(l.drop (k+1)).all (fun y=>lL (b2 y))):=by
 rw[aq h,tG]
theorem Hs(l:Bytes)(w:World)(hl:l.length<=1024000000):bV prog 69 #[.string (bs l)] w (.bool (qZ l)):=by
 obtain⟨s,hs⟩:=az (bs l);have hsz:s.size=l.length:=by rw[hs,aM]
 have hby:∀ k (hk:k<s.size) (hk2:k<l.length),((s[k]'hk).toNat:Int)=b2 l[k]:=fun k hk hk2=>cJ hs hk hk2;have hemp:(s.toList=[]) ↔ l=[]:=by rw[hs,ay]
 rw[<-hs];clear hs;obtain⟨N,hN⟩:=az (s.size);have lk:s.size=N:=hN.symm;have p7:N<=1024000000:=by omega
 by_cases hnil:l=[]
 ·have he:=hemp.mpr hnil
  have he1:s.toList.isEmpty=true:=by rw[he];rfl
  have HR:=h_ (show qZ l=false by rw[hnil];rfl);clear hemp hby hsz hl hN hnil;go_enter func69,ntmps69
  go_wp2_with fail
  go_ret;exact⟨by rw[HR.out];rfl,rfl⟩
 have he:¬ s.toList=[]:=fun h=>hnil (hemp.mp h);have he1:s.toList.isEmpty=false:=by simpa using he
 have hpos:0<l.length:=kD.mpr hnil;have h0s:0<s.size:=by omega
 have hx0:=hby 0 h0s hpos
 have hsn:qZ l=(iP (b2 l[0])&&(l.drop 1).all fun y=>lL (b2 y)):=by
  cases l with
  |nil=>cases hpos
  |cons c t=>rfl
 have h0N:(0:Int)<N:=by omega
 rw[lk]at h0s;obtain⟨X,hX⟩:=az (b2 l[0]);rw[<-hX]at hx0 hsn;obtain⟨R,hR⟩:=az ((l.drop 1).all fun y=>lL (b2 y));rw[<-hR]at hsn;have UN:=h_ (fun W=>nz X W);have kd:=h_ hby;have fL:=h_ hsz;have HR:=h_ hR;have nO:=h_ hsn;clear hemp hby hsz hl hN hnil hpos hX hR hsn;cases hq:iP X with
 |false =>
  rw[hq]at UN nO;go_enter func69,ntmps69
  go_wp2_with (first|(go_at_call 105;refine(UN.out _).mono ?_;rintro e w2 ⟨rfl,hw⟩;subst hw)|fail)
  go_ret;exact⟨by rw[nO.out];rfl,rfl⟩
 |true =>
  rw[hq]at UN nO;go_enter func69,ntmps69
  go_wp2_with (first|(go_at_call 105;refine(UN.out _).mono ?_;rintro e w2 ⟨rfl,hw⟩;subst hw)|fail)
  obtain⟨w3,hw3⟩:=az (w2);have HW:=h_ hw3;rw[<-hw3];clear hw3
  go_loopw [3] (fun iv wr=>∃ (k:Nat),1<=k∧k<=N∧iv=.int .i64 k∧Hid ((l.drop k).all (fun y=>lL (b2 y))=R)∧w3=wr) (fun i _=>N-(intOf i).toNat)
  case atStart=>exact⟨1,by omega,by omega,by simp,HR.out.symm,rfl⟩
  case round =>
   obtain⟨k,hk1,hk,rfl,hd,rfl⟩:=hrel;by_cases hlt:k<N
   ·have nS:k<s.size:=by omega
    have hkl:k<l.length:=by have:=fL.out;omega
    have hx:=kd.out k nS hkl;have hst:=a1w hkl;rw[hd.out]at hst;have hr:=jr l[k];have hle:=fun W=>nz (b2 l[k]) W;have hda:=fun W=>dB (b2 l[k]) 10 W hr (by omega);have hdg:=Qb (b2 l[k]);obtain⟨Y,hY⟩:=az (b2 l[k]);rw[<-hY]at hx hst hle hda hr hdg;clear hY hd;obtain⟨D,hD⟩:=az (fI Y 10);rw[<-hD]at hda hdg;clear hD;have vl:=h_ hda;clear hda;have jL:=h_ hle;clear hle;obtain⟨T,hT⟩:=az ((l.drop (k+1)).all fun y=>lL (b2 y));rw[<-hT]at hst;have UX:=h_ hT;clear hT;unfold lL at hst;cases hq2:iP Y with
    |true =>
     rw[hq2]at hst jL;have HST:=h_ (show R=T by rw[hst];simp);clear hst hdg
     go_wp2_with (first|(go_at_call 105;refine(jL.out _).mono ?_;rintro e w4 ⟨rfl,hw⟩;subst hw)|fail)
     go_roundw
     case rel=>exact⟨k+1,by omega,by omega,by simp,(UX.out.symm.trans HST.out.symm),by trivial⟩
     case measure=>simp[intOf];omega
    |false =>
     rw[hq2]at hst jL;by_cases hdig:48<=Y∧Y<=57
     ·have hD:¬ D<0:=by rw[hdg];simp[hdig]
      have HST:=h_ (show R=T by rw[hst];simp[hdig]);clear hst hdg hdig
      go_wp2_with (first
       |(go_at_call 105;refine(jL.out _).mono ?_;rintro e w4 ⟨rfl,hw⟩;subst hw)
       |(go_at_call 62;refine(vl.out _).mono ?_;rintro e w5 ⟨rfl,rfl⟩)
       |fail)
      go_roundw
      case rel=>exact⟨k+1,by omega,by omega,by simp,(UX.out.symm.trans HST.out.symm),by trivial⟩
      case measure=>simp[intOf];omega
     have hD:D<0:=by rw[hdg];exact hdig
     by_cases h3:Y=43∨Y=45∨Y=46
     ·have HST:=h_ (show R=T by rw[hst];rcases h3 with h|h|h <;>simp[h])
      clear hst hdg hdig;rcases h3 with rfl|rfl|rfl
      all_goals
       go_wp2_with (first
        |(go_at_call 105;refine(jL.out _).mono ?_;rintro e w4 ⟨rfl,hw⟩;subst hw)
        |(go_at_call 62;refine(vl.out _).mono ?_;rintro e w5 ⟨rfl,rfl⟩)
        |fail)
       go_roundw
       case rel=>exact⟨k+1,by omega,by omega,by simp,(UX.out.symm.trans HST.out.symm),by trivial⟩
       case measure=>simp[intOf];omega
     have HST:=h_ (show R=false by rw[hst];simp[hdig];intro h;exact absurd h h3);have e1:(Y != 43)=true:=by simpa using fun h=>h3 (.inl h)
     have e2:(Y != 45)=true:=by simpa using fun h=>h3 (.inr (.inl h))
     have e3:(Y != 46)=true:=by simpa using fun h=>h3 (.inr (.inr h))
     clear hst hdg hdig h3
     go_wp2_with (first
      |(go_at_call 105;refine(jL.out _).mono ?_;rintro e w4 ⟨rfl,hw⟩;subst hw)
      |(go_at_call 62;refine(vl.out _).mono ?_;rintro e w5 ⟨rfl,rfl⟩)
      |fail)
     go_ret;exact⟨by rw[nO.out,HST.out];rfl,HW.out⟩
   obtain rfl:k=N:=by omega
   have hdr:l.drop k=[]:=bB (by have:=fL.out;omega);have hd1:=hd.out;rw[hdr]at hd1;have HST:=h_ (show true=R from hd1);clear hd1 hd
   go_wp2_with fail
   go_ret;exact⟨by rw[nO.out,<-HST.out];rfl,HW.out⟩

theorem FV(c:UInt8)(n:Nat)(h:n<256):(c==UInt8.ofNat n)=decide (b2 c=n):=by
 have e:b2 (UInt8.ofNat n)=n:=by
  unfold b2;rw[ga];omega
 rw[cK,beq_iff_eq,decide_eq_true_eq];exact⟨fun h=>by rw[h,e],fun h=>fB (h.trans e.symm)⟩
theorem yZ(a b:UInt8):dg [a,b]=(iP (b2 a)&&(decide (b2 b=58)||decide (b2 b=124))):=by
 show(iP (b2 a)&&(b==58||b==124))=_;rw[show(b==58)=decide (b2 b=58)from FV b 58 (by decide),show(b==124)=decide (b2 b=124)from FV b 124 (by decide)]
theorem Sq(a b:UInt8):iQ [a,b]=(iP (b2 a)&&decide (b2 b=58)):=by
 show(iP (b2 a)&&b==58)=_;rw[show(b==58)=decide (b2 b=58)from FV b 58 (by decide)]
theorem IC{l:Bytes}(h:l.length=2):∃ a b,l=[a,b]:=by
 match l,h with
 | [a,b],_=>exact⟨a,b,rfl⟩
theorem rD{l:Bytes}(h:l.length≠2):dg l=false∧iQ l=false:=by
 match l,h with
 | [],_=>exact⟨rfl,rfl⟩
 | [_],_=>exact⟨rfl,rfl⟩
 | [_,_],h=>exact absurd rfl h
 |_::_::_::_,_=>exact⟨rfl,rfl⟩
theorem pG(l:Bytes)(w:World)(hl:l.length<=1024000000):bV prog 159 #[.string (bs l)] w (.bool (dg l)):=by
 obtain⟨s,hs⟩:=az (bs l);have hsz:s.size=l.length:=by rw[hs,aM]
 have hby:∀ k (hk:k<s.size) (hk2:k<l.length),((s[k]'hk).toNat:Int)=b2 l[k]:=fun k hk hk2=>cJ hs hk hk2;rw[<-hs];clear hs;by_cases h2:l.length=2
 ·obtain⟨a,b,rfl⟩:=IC h2
  have lk:s.size=2:=hsz;have h0:0<s.size:=by omega
  have h1:1<s.size:=by omega
  have hx0:((s[0]'h0).toNat:Int)=b2 a:=hby 0 h0 (b0T _);have hx1:((s[1]'h1).toNat:Int)=b2 b:=hby 1 h1 (bO 1);have hd:=yZ a b;have jL:=h_ (fun W=>nz (b2 a) W);generalize b2 a=X at *;generalize b2 b=Y at *;obtain⟨R,hR⟩:=az (dg [a,b]);rw[<-hR]at hd ⊢;clear hby hsz h2 hR hl;cases hq:iP X with
  |false =>
   rw[hq]at jL hd;have HD:=h_ hd;clear hd;go_enter func159,ntmps159
   go_wp2_with (first|(go_at_call 105;refine(jL.out _).mono ?_;rintro e w2 ⟨rfl,hw⟩;subst hw)|fail)
   go_ret;exact⟨by rw[HD.out];rfl,rfl⟩
  |true =>
   rw[hq]at jL hd;by_cases zd:Y=58
   ·have HD:=h_ (show R=true by rw[hd];simp[zd]);clear hd
    subst zd;go_enter func159,ntmps159
    go_wp2_with (first|(go_at_call 105;refine(jL.out _).mono ?_;rintro e w2 ⟨rfl,hw⟩;subst hw)|fail)
    go_ret;exact⟨by rw[HD.out];rfl,rfl⟩
   have q58:(Y==58)=false:=by simpa using zd
   by_cases V1:Y=124
   ·have HD:=h_ (show R=true by rw[hd];simp[V1]);clear hd
    subst V1;go_enter func159,ntmps159
    go_wp2_with (first|(go_at_call 105;refine(jL.out _).mono ?_;rintro e w2 ⟨rfl,hw⟩;subst hw)|fail)
    go_ret;exact⟨by rw[HD.out];rfl,rfl⟩
   have b35:(Y==124)=false:=by simpa using V1
   have HD:=h_ (show R=false by rw[hd];simp[zd,V1]);clear hd;go_enter func159,ntmps159
   go_wp2_with (first|(go_at_call 105;refine(jL.out _).mono ?_;rintro e w2 ⟨rfl,hw⟩;subst hw)|fail)
   go_ret;exact⟨by rw[HD.out];rfl,rfl⟩
 have HD:=h_ (rD h2).1;obtain⟨N,hN⟩:=az (s.size);have lk:s.size=N:=hN.symm
 have hn:((N:Int)==2)=false:=by
  have:(N:Int)≠2:=by omega
  simpa using this
 clear hby h2 hsz hl hN;go_enter func159,ntmps159
 go_wp2_with fail
 go_ret;exact⟨by rw[HD.out];rfl,rfl⟩
theorem qU(l:Bytes)(w:World)(hl:l.length<=1024000000):bV prog 127 #[.string (bs l)] w (.bool (iQ l)):=by
 have hdr:=fun W=>pG l W hl;obtain⟨s,hs⟩:=az (bs l);have hsz:s.size=l.length:=by rw[hs,aM]
 have hby:∀ k (hk:k<s.size) (hk2:k<l.length),((s[k]'hk).toNat:Int)=b2 l[k]:=fun k hk hk2=>cJ hs hk hk2;rw[<-hs]at hdr ⊢;clear hs;have HDR:=h_ hdr;clear hdr;by_cases h2:l.length=2
 ·obtain⟨a,b,rfl⟩:=IC h2
  have lk:s.size=2:=hsz;have h1:1<s.size:=by omega
  have hx1:((s[1]'h1).toNat:Int)=b2 b:=hby 1 h1 (bO 1);have hd:=yZ a b;have hn:=Sq a b;rw[hd]at HDR;generalize b2 a=X at *;generalize b2 b=Y at *;obtain⟨R,hR⟩:=az (iQ [a,b]);rw[<-hR]at hn ⊢;clear hby hsz h2 hR hl hd;generalize iP X=q at *;by_cases zd:Y=58
  ·subst zd
   have HN:=h_ (show R=q by rw[hn];simp);clear hn;cases q
   all_goals
    go_enter func127,ntmps127
    go_wp2_with (first|(go_at_call 159;refine(HDR.out _).mono ?_;rintro e w2 ⟨rfl,hw⟩;subst hw)|fail)
    go_ret;exact⟨by rw[HN.out];rfl,rfl⟩
  have q58:(Y==58)=false:=by simpa using zd
  have HN:=h_ (show R=false by rw[hn];simp[zd]);clear hn;obtain⟨r,hr⟩:=az ((q&&(decide (Y=58)||decide (Y=124))));rw[<-hr]at HDR;clear hr zd;cases r
  all_goals
   go_enter func127,ntmps127
   go_wp2_with (first|(go_at_call 159;refine(HDR.out _).mono ?_;rintro e w2 ⟨rfl,hw⟩;subst hw)|fail)
   go_ret;exact⟨by rw[HN.out];rfl,rfl⟩
 rw[(rD h2).1]at HDR;have HN:=h_ (rD h2).2;clear hby h2 hsz hl;go_enter func127,ntmps127
 go_wp2_with (first|(go_at_call 159;refine(HDR.out _).mono ?_;rintro e w2 ⟨rfl,hw⟩;subst hw)|fail)
 go_ret;exact⟨by rw[HN.out];rfl,rfl⟩

theorem z0{l:Bytes}(h:l.length<2∨dg (l.take 2)=false):fW l=false:=by
 match l,h with
 | [],_=>rfl
 | [_],_=>rfl
 | [a,b],h =>
  rcases h with h|h
  ·simp at h
  exact h
 |a::b::c::r,h =>
  rcases h with h|h
  ·simp at h;omega
  show(dg [a,b]&&_)=false;rw[show dg [a,b]=false from h];rfl
theorem Ir{l:Bytes}(h:l.length=2)(hd:dg (l.take 2)=true):fW l=true:=by
 obtain⟨a,b,rfl⟩:=IC h;exact hd
theorem EX{l:Bytes}(h:2<l.length)(hd:dg (l.take 2)=true):fW l=jJ [47,92,63,35] (b2 (l[2]'h)):=by
 match l,h,hd with
 |a::b::c::r,_,hd =>
  show(dg [a,b]&&(c==47||c==92||c==63||c==35))=jJ [47,92,63,35] (b2 c);rw[show dg [a,b]=true from hd,kU];have key:∀ k:Fin 256,(UInt8.ofNat k.val==47||UInt8.ofNat k.val==92||UInt8.ofNat k.val==63||UInt8.ofNat k.val==35)=jJ [47,92,63,35] (b2 (UInt8.ofNat k.val)):=by decide +kernel
  have:=key ⟨c.toNat,c.toNat_lt⟩
  simpa using this
theorem xN(l:Bytes)(w:World)(hl:l.length<=1024000000):bV prog 128 #[.string (bs l)] w (.bool (fW l)):=by
 have hdr:=fun W=>pG (l.take 2) W (by rw[aE];omega);obtain⟨s,hs⟩:=az (bs l);have hsz:s.size=l.length:=by rw[hs,aM]
 have hby:∀ k (hk:k<s.size) (hk2:k<l.length),((s[k]'hk).toNat:Int)=b2 l[k]:=fun k hk hk2=>cJ hs hk hk2;have hex:s.extract 0 2=bs (l.take 2):=by rw[hs];exact sL l 2
 rw[<-hs];clear hs;obtain⟨N,hN⟩:=az (s.size);have lk:s.size=N:=hN.symm;have ou:N=l.length:=by omega
 obtain⟨t,ht⟩:=az (bs (l.take 2));rw[<-ht]at hdr hex;by_cases h2:N<2
 ·have HR:=h_ (z0 (l:=l) (.inl (by omega)))
  clear hby hex hdr ht hN hsz hl ou;go_enter func128,ntmps128
  go_wp2_with fail
  go_ret;exact⟨by rw[HR.out];rfl,rfl⟩
 have h2i:(2:Int)<=N:=by omega
 have HDR:=h_ hdr;clear hdr;cases hd:dg (l.take 2)with
 |false =>
  rw[hd]at HDR;have HR:=h_ (z0 (l:=l) (.inr hd));clear hby ht hN hsz hl ou hd;go_enter func128,ntmps128
  go_wp2_with (first|(go_at_call 159;refine(HDR.out _).mono ?_;rintro e w2 ⟨rfl,hw⟩;subst hw)|fail)
  go_ret;exact⟨by rw[HR.out];rfl,rfl⟩
 |true =>
  rw[hd]at HDR;by_cases hq:N=2
  ·have HR:=h_ (Ir (l:=l) (by omega) hd)
   have hqb:((N:Int)==2)=true:=by rw[hq];rfl
   clear hby ht hN hsz hl ou hd;subst hq;go_enter func128,ntmps128
   go_wp2_with (first|(go_at_call 159;refine(HDR.out _).mono ?_;rintro e w2 ⟨rfl,hw⟩;subst hw)|fail)
   go_ret;exact⟨by rw[HR.out];rfl,rfl⟩
  have h3:2<l.length:=by omega
  have h3s:2<s.size:=by omega
  have hx:=hby 2 h3s h3;have hr:=EX h3 hd;obtain⟨x,mZ⟩:=az (l[2]);rw[<-mZ]at hx hr;have hib:=fun W=>Any.strings_IndexByte laysIB ⟨#[47,92,63,35]⟩ (b2 x) W;rw[show(⟨#[47,92,63,35]⟩:ByteArray).data.toList=[47,92,63,35]from rfl,show(b2 x).toNat.toUInt8=x by simp[b2]]at hib;have GD:∀ W,bV prog 81 #[.string ⟨#[47,92,63,35]⟩,.int .u8 (b2 x)] W (.int .i64 (Lib.indexByte [47,92,63,35] x)):=hib;have hi:=rR [47,92,63,35] x;generalize Lib.indexByte [47,92,63,35] x=I at GD hi;rw[<-hr]at hi;generalize fW l=R at hi ⊢;generalize b2 x=X at *;have Oc:=h_ GD
  have hqb:((N:Int)==2)=false:=by
   have:(N:Int)≠2:=by omega
   simpa using this
  have h3i:(2:Int)<N:=by omega
  have h3n:2<N:=by omega
  clear hby ht hN hsz hl ou hd hib GD hr mZ;cases R with
  |true =>
   have hI:0<=I:=hi.mpr rfl;clear hi;go_enter func128,ntmps128
   go_wp2_with (first
    |(go_at_call 159;refine(HDR.out _).mono ?_;rintro e w2 ⟨rfl,hw⟩;subst hw)
    |(go_at_call 81;refine(Oc.out _).mono ?_;rintro e w3 ⟨rfl,hw⟩;subst hw)
    |fail)
   go_ret;exact⟨dX (by simp),rfl⟩
  |false =>
   have hI:¬ 0<=I:=fun h=>by have:=hi.mp h;cases this
   clear hi;go_enter func128,ntmps128
   go_wp2_with (first
    |(go_at_call 159;refine(HDR.out _).mono ?_;rintro e w2 ⟨rfl,hw⟩;subst hw)
    |(go_at_call 81;refine(Oc.out _).mono ?_;rintro e w3 ⟨rfl,hw⟩;subst hw)
    |fail)
   go_ret;exact⟨dX (by simp;omega),rfl⟩
theorem Wx:∀ k:Fin 256,(dF (UInt8.ofNat k.val)=37 ↔ UInt8.ofNat k.val=37)∧(dF (UInt8.ofNat k.val)=50 ↔ UInt8.ofNat k.val=50)∧(dF (UInt8.ofNat k.val)=101 ↔ (UInt8.ofNat k.val=101∨UInt8.ofNat k.val=69)):=by decide +kernel
theorem Si(c:UInt8):(dF c=37 ↔ c=37)∧(dF c=50 ↔ c=50)∧(dF c=101 ↔ (c=101∨c=69)):=by
 have:=Wx ⟨c.toNat,c.toNat_lt⟩
 simpa using this
theorem Pt(l:Bytes):jj l=if l.head? = some 46 then some (l.drop 1)else if 3<=l.length∧(l.take 3).map dF=[37,50,101]then some (l.drop 3)else none:=by
 match l with
 | []=>rfl
 |c::t =>
  by_cases h46:c=46
  ·subst h46
   rw[FT,if_pos (by rfl)];rfl
  rw[if_neg (by simpa using h46)]
  match t with
  | [] =>
   rw[if_neg (by simp)];unfold jj;dsimp only;rw[if_neg h46]
   split
   ·next h=>cases h
   rfl
  | [x] =>
   rw[if_neg (by simp)];unfold jj;dsimp only;rw[if_neg h46]
   split
   ·next h=>cases h
   rfl
  |x::y::r =>
   have e:((c::x::y::r).take 3).map dF=[dF c,dF x,dF y]:=rfl;rw[e];obtain⟨k1,_,_⟩:=Si c;obtain⟨_,k2,_⟩:=Si x;obtain⟨_,_,k3⟩:=Si y;by_cases h37:c=37
   ·by_cases h50:x=50
    ·subst h37;subst h50
     rw[pB];by_cases hy:y=101∨y=69
     ·rw[if_pos hy,if_pos ⟨by simp,by rw[k1.mpr rfl,k2.mpr rfl,k3.mpr hy]⟩]
      rfl
     rw[if_neg hy,if_neg (fun h=>hy (k3.mp (by injection h.2 with _ h;injection h with _ h;injection h)))]
    subst h37;rw[oz h50,if_neg (fun h=>h50 (k2.mp (by injection h.2 with _ h;injection h)))]
   rw[kV h46 h37,if_neg (fun h=>h37 (k1.mp (by injection h.2)))]
theorem Jq(l:Bytes)(w:World)(hl:l.length<=1024000000):bN prog 188 #[.string (bs l)] w (.tuple #[S ((jj l).getD []),.bool (jj l).isSome]):=by
 have Ba:=fun W=>oO l [46] W;rw[show bs [46]=⟨#[46]⟩from rfl]at Ba
 have a4S:Lib.hasPrefix l [46]=decide (l.head? = some 46):=by
  cases l with
  |nil=>rfl
  |cons x r =>
   show((46==x)&&true)=_;rw[jq,cK];simp only[beq_iff_eq,k9,dA,decide_eq_true_eq];exact eq_comm
 rw[a4S]at Ba;have hlow:=fun W=>sX (l.take 3) W (by unfold maxLen;rw[aE];omega);have hbi:=Pt l;obtain⟨R,hR⟩:=az (jj l);rw[<-hR]at hbi ⊢;obtain⟨s,hs⟩:=az (bs l);have hsz:s.size=l.length:=by rw[hs,aM]
 have a4A:s.extract 0 3=bs (l.take 3):=by rw[hs];exact sL l 3
 have hd1:s.extract 1 s.size=bs (l.drop 1):=by rw[hs];exact jy l 1 _ (aM l)
 have hd3:s.extract 3 s.size=bs (l.drop 3):=by rw[hs];exact jy l 3 _ (aM l)
 rw[<-hs]at Ba ⊢;clear hs a4S hR;obtain⟨N,hN⟩:=az (s.size);have lk:s.size=N:=hN.symm;rw[lk]at hd1 hd3;have ou:N=l.length:=by omega
 obtain⟨t,ht⟩:=az (bs (l.take 3));rw[<-ht]at a4A hlow
 have hne:l.head? = some 46->1<=N:=fun h=>by
  cases l with
  |nil=>cases h
  |cons c r=>rw[ou];simp
 rw[<-ou]at hbi;generalize (l.take 3).map dF=m at hbi hlow;generalize l.drop 1=d1 at hbi hd1;generalize l.drop 3=d3 at hbi hd3;obtain⟨q,hq⟩:∃ q:Prop,q=(l.head? = some 46):=⟨_,rfl⟩;rw[<-hq]at hne;have IO:=h_ Ba;have UO:=h_ (show ∀W,bN prog 70 #[.string t] W (S m)from hlow);by_cases h46:l.head? = some 46
 ·rw[if_pos h46]at hbi
  rw[decide_eq_true h46]at IO;have hN1:1<=N:=hne (hq▸h46);have V4:(1:Int)<=N:=by omega
  have HR:=h_ hbi;clear Ba hbi hlow ht hN hsz hl ou hq hne h46 a4A hd3;go_enter func188,ntmps188
  go_wp2_with (first|(go_at_call 57;refine(IO.out _).mono ?_;rintro e w2 ⟨rfl,hw⟩;subst hw)|fail)
  go_ret2
  exact⟨by rw[HR.out];rfl,bz _⟩
 rw[if_neg h46]at hbi;rw[decide_eq_false h46]at IO;clear Ba hlow ht hN hsz hl ou hq hne h46 hd1;by_cases h3:3<=N
 ·have h3i:(3:Int)<=N:=by omega
  have he:=yC m [37,50,101];by_cases hm:m=[37,50,101]
  ·rw[if_pos ⟨h3,hm⟩]at hbi
   rw[decide_eq_true hm]at he;have HR:=h_ hbi;clear hbi hm;rw[ay,ay]at he;have he2:((bs m).toList == [37,50,101])=true:=by rw[ay];exact he
   obtain⟨z,hz⟩:=az (bs m);rw[<-hz]at he2;replace UO:=h_ (show ∀W,bN prog 70 #[.string t] W (.string z)from by rw[hz];exact UO.out);clear hz he;go_enter func188,ntmps188
   go_wp2_with (first
    |(go_at_call 57;refine(IO.out _).mono ?_;rintro e w2 ⟨rfl,hw⟩;subst hw)
    |(go_at_call 70;refine(UO.out _).mono ?_;rintro e w3 ⟨rfl,hb⟩;have HB:=h_ hb;clear hb)
    |fail)
   go_ret2
   exact⟨by rw[HR.out];rfl,HB.out⟩
  rw[if_neg (fun h=>hm h.2)]at hbi;rw[decide_eq_false hm]at he;have HR:=h_ hbi;clear hbi hm;rw[ay,ay]at he;have he2:((bs m).toList == [37,50,101])=false:=by rw[ay];exact he
  obtain⟨z,hz⟩:=az (bs m);rw[<-hz]at he2;replace UO:=h_ (show ∀W,bN prog 70 #[.string t] W (.string z)from by rw[hz];exact UO.out);clear hz he;go_enter func188,ntmps188
  go_wp2_with (first
   |(go_at_call 57;refine(IO.out _).mono ?_;rintro e w2 ⟨rfl,hw⟩;subst hw)
   |(go_at_call 70;refine(UO.out _).mono ?_;rintro e w3 ⟨rfl,hb⟩;have HB:=h_ hb;clear hb)
   |fail)
  go_ret2
  exact⟨by rw[HR.out];rfl,HB.out⟩
 rw[if_neg (fun h=>h3 h.1)]at hbi;have HR:=h_ hbi;clear hbi;go_enter func188,ntmps188
 go_wp2_with (first
  |(go_at_call 57;refine(IO.out _).mono ?_;rintro e w2 ⟨rfl,hw⟩;subst hw)
  |fail)
 go_ret2
 exact⟨by rw[HR.out];rfl,bz _⟩
theorem JA(l:Bytes)(w:World)(hl:l.length<=1024000000):bN prog 164 #[.string (bs l)] w (.bool (ll l)):=by
 have hb:=fun W=>Jq l W hl;obtain⟨R,hR⟩:=az (ll l);rw[<-hR];unfold ll at hR;generalize bs l=s at *;generalize jj l=b at *;cases b with
 |none =>
  have HB:=h_ (show ∀W,bN prog 188 #[.string s] W (.tuple #[.string ⟨#[]⟩,.bool false])from hb);have HR:=h_ (show R=false from hR);clear hb hR;go_enter func164,ntmps164
  go_wp2_with (first|(go_at_call 188;refine(HB.out _).mono ?_;rintro e w2 ⟨rfl,hb⟩;have HW:=h_ hb;clear hb)|fail)
  go_ret;exact⟨by rw[HR.out];rfl,HW.out⟩
 |some r =>
  obtain⟨z,hz⟩:=az (bs r);have HB:=h_ (show ∀W,bN prog 188 #[.string s] W (.tuple #[.string z,.bool true])from by rw[hz];exact hb);have hze:z.toList=[] ↔ r=[]:=by rw[hz,ay]
  have hRr:R=decide (r=[]):=by
   rw[hR,cK,decide_eq_true_eq];simp
  clear hb hR hz;by_cases hn:r=[]
  ·have he:=hze.mpr hn
   have he1:z.toList.isEmpty=true:=by rw[he];rfl
   have HR:=h_ (show R=true by rw[hRr,decide_eq_true hn]);clear hze hRr hn;go_enter func164,ntmps164
   go_wp2_with (first|(go_at_call 188;refine(HB.out _).mono ?_;rintro e w2 ⟨rfl,hb⟩;have HW:=h_ hb;clear hb)|fail)
   go_ret;exact⟨by rw[HR.out];rfl,HW.out⟩
  have he:¬ z.toList=[]:=fun h=>hn (hze.mp h);have he1:z.toList.isEmpty=false:=by simpa using he
  have HR:=h_ (show R=false by rw[hRr,decide_eq_false hn]);clear hze hRr hn;go_enter func164,ntmps164
  go_wp2_with (first|(go_at_call 188;refine(HB.out _).mono ?_;rintro e w2 ⟨rfl,hb⟩;have HW:=h_ hb;clear hb)|fail)
  go_ret;exact⟨by rw[HR.out];rfl,HW.out⟩
theorem Vs{l r:Bytes}(h:jj l=some r):r.length<=l.length:=by
 rw[Pt]at h
 split at h
 ·injection h with h
  rw[<-h,ah];omega
 split at h
 ·injection h with h
  rw[<-h,ah];omega
 cases h
theorem Qh(l:Bytes)(w:World)(hl:l.length<=1024000000):bN prog 162 #[.string (bs l)] w (.bool (kz l)):=by
 have hb:=fun W=>Jq l W hl;have hln:=fun r (h:jj l=some r)=>Vs h;obtain⟨R,hR⟩:=az (kz l);rw[<-hR];unfold kz at hR;generalize bs l=s at *;generalize jj l=b at *;cases b with
 |none =>
  have HB:=h_ (show ∀W,bN prog 188 #[.string s] W (.tuple #[.string ⟨#[]⟩,.bool false])from hb);have HR:=h_ (show R=false from hR);clear hb hR hln;go_enter func162,ntmps162
  go_wp2_with (first|(go_at_call 188;refine(HB.out _).mono ?_;rintro e w2 ⟨rfl,hb⟩;have HW:=h_ hb;clear hb)|fail)
  go_ret;exact⟨by rw[HR.out];rfl,HW.out⟩
 |some r =>
  have hdo:=fun W=>JA r W (by have:=hln r rfl;omega);obtain⟨z,hz⟩:=az (bs r);have HB:=h_ (show ∀W,bN prog 188 #[.string s] W (.tuple #[.string z,.bool true])from by rw[hz];exact hb);rw[<-hz]at hdo;have HD:=h_ hdo;have HR:=h_ (show R=ll r from hR);clear hb hR hz hdo hln;generalize ll r=q at HD HR;go_enter func162,ntmps162
  go_wp2_with (first
   |(go_at_call 188;refine(HB.out _).mono ?_;rintro e w2 ⟨rfl,hb⟩;have HW:=h_ hb;clear hb)
   |(go_at_call 164;refine(HD.out _).mono ?_;rintro e w3 ⟨rfl,hb⟩;have HW3:=h_ (iK HW.out hb);clear hb)
   |fail)
  go_ret;exact⟨by rw[HR.out];rfl,HW3.out⟩

theorem a5U{sp:Bool}{l:Bytes}{k:Nat}(h:k<l.length):ra sp (l.drop k)=if ks sp l[k]=true then 1+ra sp (l.drop (k+1))else 0:=by
 unfold ra;rw[aq h];cases hp:ks sp l[k]with
 |true=>rw[aY hp,if_pos rfl,ag];omega
 |false=>rw[aX (by simp[hp]),if_neg (by simp)];rfl
theorem BG(sp:Bool)(l:Bytes):ra sp l<=l.length:=(List.takeWhile_sublist _).length_le
theorem lY(aH l:Bytes)(w:World)(hl:l.length<=1024000000):bV prog 125 #[.string (bs aH),.string (bs l)] w (.int .i64 (ra (eK aH) l)):=by
 have hsp:=fun W=>gZ aH W;generalize eK aH=sp at *;generalize bs aH=c at *;have j0:=h_ hsp;clear hsp;obtain⟨R,hR⟩:=az (ra sp l);rw[<-hR];have HR:=h_ hR;clear hR;obtain⟨s,hs⟩:=az (bs l);have hsz:s.size=l.length:=by rw[hs,aM]
 have hby:∀ k (hk:k<s.size) (hk2:k<l.length),((s[k]'hk).toNat:Int)=b2 l[k]:=fun k hk hk2=>cJ hs hk hk2;rw[<-hs];clear hs;obtain⟨N,hN⟩:=az (s.size);have lk:s.size=N:=hN.symm;have p7:N<=1024000000:=by omega
 have kd:=h_ hby;clear hby;have fL:=h_ hsz;clear hsz hl hN;go_enter func125,ntmps125
 go_wp2_with (first|(go_at_call 96;refine(j0.out _).mono ?_;rintro e w2 ⟨rfl,hw⟩;subst hw)|fail)
 obtain⟨w3,hw3⟩:=az (w2);have HW:=h_ hw3;rw[<-hw3];clear hw3
 go_loopw [6] (fun iv wr=>∃ k:Nat,k<=N∧iv=.int .i64 k∧Hid (k+ra sp (l.drop k)=R)∧w3=wr) (fun i _=>N-(intOf i).toNat)
 case atStart=>exact⟨0,by omega,by simp,(by rw[HR.out];show 0+ra sp (List.drop 0 l)=_;simp),rfl⟩
 case round =>
  obtain⟨k,hk,rfl,hd,rfl⟩:=hrel;by_cases hlt:k<N
  ·have nS:k<s.size:=by omega
   have hkl:k<l.length:=by have:=fL.out;omega
   have hx:=kd.out k nS hkl;have hst:=a5U (sp:=sp) hkl;rw[slP_b]at hst;have hd1:=hd.out;obtain⟨T,hT⟩:=az (ra sp (l.drop (k+1)));rw[<-hT]at hst;have HT:=h_ hT;clear hT;obtain⟨X,hX⟩:=az (b2 l[k]);rw[<-hX]at hx hst;clear hX hd;by_cases h47:X=47
   ·subst h47
    have HN:=h_ (show k+1+T=R by rw[if_pos (by simp)]at hst;omega);clear hst hd1
    go_wp2_with fail
    go_roundw
    case rel=>exact⟨k+1,by omega,by simp,(by rw[<-HT.out];exact HN.out),by trivial⟩
    case measure=>simp[intOf];omega
   have q47:(X==47)=false:=by simpa using h47
   cases sp with
   |false =>
    have HN:=h_ (show k=R by rw[if_neg (by simp[h47])]at hst;omega);clear hst hd1
    go_wp2_with fail
    go_ret;exact⟨by rw[<-HN.out];rfl,HW.out⟩
   |true =>
    by_cases QL:X=92
    ·subst QL
     have HN:=h_ (show k+1+T=R by rw[if_pos (by simp)]at hst;omega);clear hst hd1
     go_wp2_with fail
     go_roundw
     case rel=>exact⟨k+1,by omega,by simp,(by rw[<-HT.out];exact HN.out),by trivial⟩
     case measure=>simp[intOf];omega
    have q92:(X==92)=false:=by simpa using QL
    have HN:=h_ (show k=R by rw[if_neg (by simp[h47,QL])]at hst;omega);clear hst hd1
    go_wp2_with fail
    go_ret;exact⟨by rw[<-HN.out];rfl,HW.out⟩
  obtain rfl:k=N:=by omega
  have hdr:l.drop k=[]:=bB (by have:=fL.out;omega);have hd1:=hd.out;rw[hdr]at hd1;have HN:=h_ (show k=R from hd1);clear hd1 hd
  go_wp2_with fail
  go_ret;exact⟨by rw[<-HN.out];rfl,HW.out⟩
theorem qw(aH l:Bytes)(w:World)(hl:l.length<=1024000000):bV prog 100 #[.string (bs aH),.string (bs l)] w (S (l.drop (ra (eK aH) l))):=by
 have hsl:=fun W=>lY aH l W hl;have hle:=BG (eK aH) l;generalize ra (eK aH) l=k at *;generalize bs aH=c at *;obtain⟨s,hs⟩:=az (bs l);have hsz:s.size=l.length:=by rw[hs,aM]
 have hex:s.extract k s.size=bs (l.drop k):=by rw[hs];exact jy l k _ (aM l)
 rw[<-hs]at hsl ⊢;clear hs;obtain⟨N,hN⟩:=az (s.size);have lk:s.size=N:=hN.symm;rw[lk]at hex;obtain⟨t,ht⟩:=az (bs (l.drop k));rw[<-ht]at hex;have HT:=h_ ht;have HSL:=h_ hsl;have hki:(k:Int)<=N:=by omega
 have hkn:k<=N:=by omega
 clear hsl hsz hl hle hN ht;go_enter func100,ntmps100
 go_wp2_with (first|(go_at_call 125;refine(HSL.out _).mono ?_;rintro e w2 ⟨rfl,hw⟩;subst hw)|fail)
 go_ret;exact⟨by rw[HT.out];rfl,rfl⟩
theorem Tf{sp:Bool}{p:Bytes}(h:∀ y∈p,ks sp y=false){c:UInt8}(hc:ks sp c=true)(t:Bytes):fO sp (p++c::t)=p::fO sp t:=by
 induction p with
 |nil=>rw[bJ,fO,if_pos hc]
 |cons x r ih =>
  rw[bd,fO,if_neg (by rw[h x (by simp)];simp),ih (fun y hy=>h y (by simp[hy]))]
theorem EK(sp:Bool):∀ l:Bytes,(fO sp l).length<=l.length+1
 | []=>by simp[fO]
 |c::t=>by
  have:=EK sp t;rw[fO]
  split
  ·simp;omega
  split
  ·simp
  next h=>rw[h]at this;simp at this ⊢;omega
theorem Kl{l:Bytes}{f k:Nat}{y:UInt8}(h:y∈(l.drop f).take (k-f)):∃ j,∃hj:j<l.length,f<=j∧j<k∧l[j]=y:=by
 obtain⟨i,hi,he⟩:=dz h;rw[aE,ah]at hi;rw[Oj,sA]at he;exact⟨f+i,by omega,by omega,by omega,he⟩
theorem Io(l:Bytes)(sp:Bool)(w:World)(hl:l.length<=1024000000):Calls prog 161 #[.string (bs l),.bool sp] w (gU w 9 (Strs (fO sp l))):=by
 obtain⟨i1,hi1,hz1,hz2,hz3⟩:=info_parts mT;obtain⟨T,hT⟩:=az (fO sp l);rw[<-hT];have HT:=h_ hT;clear hT;obtain⟨s,hs⟩:=az (bs l);have hsz:s.size=l.length:=by rw[hs,aM]
 have hby:∀ k (hk:k<s.size) (hk2:k<l.length),((s[k]'hk).toNat:Int)=b2 l[k]:=fun k hk hk2=>cJ hs hk hk2;have hex:∀ f k,s.extract f k=bs ((l.drop f).take (k-f)):=fun f k=>by rw[hs,bX]
 rw[<-hs];clear hs;obtain⟨N,hN⟩:=az (s.size);have lk:s.size=N:=hN.symm;have p7:N<=1024000000:=by omega
 have kd:=h_ hby;clear hby;have Ob:=h_ hex;clear hex;have fL:=h_ hsz;clear hsz hl hN;go_enter func161,ntmps161
 go_wp2_with fail
 go_loopw [5,6,7] (fun ov fv iv wr=>∃ (k f:Nat) (o:List Bytes),k<=N∧f<=k∧o.length<=k∧iv=.int .i64 k∧fv=.int .i64 f∧Hid (wr.ownsRow w.heap.size 9 1 ov o.length (Strs o))∧Hid (o++fO sp (l.drop f)=T∧∀ j (hj:j<l.length),f<=j->j<k->ks sp l[j]=false)∧Hid (Below w.heap.size w wr)) (fun _ _ i _=>N-(intOf i).toNat)
 case atStart=>exact⟨0,0,[],by omega,by omega,by simp,by simp,by simp,World.ownsRow_nil _ _ _ _,⟨by rw[HT.out];rfl,fun j _ _ h=>absurd h (cg j)⟩,Below.refl _ _⟩
 case round =>
  obtain⟨k,f,o,hk,hfk,hol,rfl,rfl,HO,hinv,HB⟩:=hrel;have hwz:w.heap.size<=wr.heap.size:=HB.out.size;obtain⟨al,hal⟩:=az (o.length);have ho:=HO.out;rw[<-hal]at ho hol;have fg:=h_ ho;clear ho HO;have pp:=h_ hal;clear hal;by_cases hlt:k<N
  ·have nS:k<s.size:=by omega
   have hkl:k<l.length:=by have:=fL.out;omega
   have hx:=kd.out k nS hkl;obtain⟨a0t,a0u⟩:=hinv.out;have hb:=@slP_b sp l[k]
   have hmiss:ks sp l[k]=false->(o++fO sp (l.drop f)=T∧∀ j (hj:j<l.length),f<=j->j<k+1->ks sp l[j]=false):=fun h=>⟨a0t,fun j hj h1 h2=>by
    rcases cZ j k with h3|h3
    ·exact a0u j hj h1 h3
    obtain rfl:j=k:=by omega
    exact h⟩
   obtain⟨p,hp⟩:=az ((l.drop f).take (k-f))
   have hhit:ks sp l[k]=true->((o++[p])++fO sp (l.drop (k+1))=T∧∀ j (hj:j<l.length),k+1<=j->j<k+1->ks sp l[j]=false):=fun h=>by
    refine⟨?_,fun j _ h1 h2=>by omega⟩
    have e:l.drop f=p++l[k]::l.drop (k+1):=by
     rw[hp,<-List.drop_eq_getElem_cons hkl];have:l.drop k=(l.drop f).drop (k-f):=by rw[rh];congr 1;omega
     rw[this,cX]
    have hs:=Tf (sp:=sp) (p:=p) (fun y hy=>by
     rw[hp]at hy;obtain⟨j,hj,h1,h2,rfl⟩:=Kl hy;exact a0u j hj h1 h2) h (l.drop (k+1))
    rw[<-e]at hs;rw[<-a0t,hs];simp
   have a4B:=Ob.out f k;rw[<-hp]at a4B;have hsn:=jW o p;obtain⟨u,hu⟩:=az (bs p);rw[<-hu]at a4B hsn;rw[hb]at hmiss hhit;obtain⟨X,hX⟩:=az (b2 l[k]);rw[<-hX]at hx hmiss hhit;have yE:=h_ hmiss;have Lf:=h_ hhit;have nO:=h_ hsn;have hfs:f<=s.size:=by omega
   have a9k:(f:Int)<=k:=by omega
   have b3G:(k:Int)<=N:=by omega
   have hw1:IntKind.i64.wrap ((k:Int)+1)=((k+1:Nat):Int):=by rw[show(k:Int)+1=((k+1:Nat):Int) by omega];exact IntWalk.i64_in _ (by omega)
   obtain⟨K,hK⟩:=az (k+1);rw[<-hK]at hw1;have HK:=h_ hK;clear hinv a0t a0u hb hmiss hhit hp hsn hu hX hK;by_cases h47:X=47
   ·subst h47
    have HS:=h_ (Lf.out (by simp));clear yE Lf
    go_wp2_with (first|(at_builtin;(refine eO rfl (.tmp 27) (.tmp 32) _ rfl w.heap.size 9 i1 (.string ⟨#[]⟩) 16 underlying28 hi1 hz1 hz2 hz3 (by decide) _ _ _ (Strs o) rfl fg.out (.string u) rfl rfl (by omega) (by decide) (by omega) ?_);intro v2 w2 hown2 hw2 hb2;have Lh:=h_ hown2;clear hown2;have HB2:=h_ hb2;clear hb2)|fail)
    go_roundw
    case rel =>
     have hke:=HK.out;subst hke;refine⟨k+1,k+1,o++[p],by omega,by omega,by rw[ae,<-pp.out];simp;omega,by rfl,by rfl,?_,HS.out,HB.out.trans HB2.out⟩;show World.ownsRow _ _ _ _ _ _ _;rw[nO.out,ae,<-pp.out];exact Lh.out
    case measure=>have:=HK.out;simp[intOf];omega
   have q47:(X==47)=false:=by simpa using h47
   cases sp with
   |false =>
    have HS:=h_ (yE.out (by simp[h47]));clear yE Lf
    go_wp2_with fail
    go_roundw
    case rel =>
     have hke:=HK.out;subst hke;exact⟨k+1,f,o,by omega,by omega,by rw[<-pp.out];omega,by rfl,by rfl,by rw[<-pp.out];exact fg.out,HS.out,HB.out⟩
    case measure=>have:=HK.out;simp[intOf];omega
   |true =>
    by_cases QL:X=92
    ·subst QL
     have HS:=h_ (Lf.out (by simp));clear yE Lf
     go_wp2_with (first|(at_builtin;(refine eO rfl (.tmp 27) (.tmp 32) _ rfl w.heap.size 9 i1 (.string ⟨#[]⟩) 16 underlying28 hi1 hz1 hz2 hz3 (by decide) _ _ _ (Strs o) rfl fg.out (.string u) rfl rfl (by omega) (by decide) (by omega) ?_);intro v2 w2 hown2 hw2 hb2;have Lh:=h_ hown2;clear hown2;have HB2:=h_ hb2;clear hb2)|fail)
     go_roundw
     case rel =>
      have hke:=HK.out;subst hke;refine⟨k+1,k+1,o++[p],by omega,by omega,by rw[ae,<-pp.out];simp;omega,by rfl,by rfl,?_,HS.out,HB.out.trans HB2.out⟩;show World.ownsRow _ _ _ _ _ _ _;rw[nO.out,ae,<-pp.out];exact Lh.out
     case measure=>have:=HK.out;simp[intOf];omega
    have q92:(X==92)=false:=by simpa using QL
    have HS:=h_ (yE.out (by simp[h47,QL]));clear yE Lf
    go_wp2_with fail
    go_roundw
    case rel =>
     have hke:=HK.out;subst hke;exact⟨k+1,f,o,by omega,by omega,by rw[<-pp.out];omega,by rfl,by rfl,by rw[<-pp.out];exact fg.out,HS.out,HB.out⟩
    case measure=>have:=HK.out;simp[intOf];omega
  obtain rfl:k=N:=by omega
  have hex:=Ob.out f k;have hln:(l.drop f).take (k-f)=l.drop f:=aP (by rw[ah];have:=fL.out;omega);rw[hln]at hex;obtain⟨h1,h2⟩:=hinv.out
  have hpc:fO sp (l.drop f)=[l.drop f]:=xG (fun y hy=>by
   have hy2:y∈(l.drop f).take (k-f):=by rw[hln];exact hy
   obtain⟨j,hj,h3,h4,rfl⟩:=Kl hy2;exact h2 j hj h3 h4)
  rw[hpc]at h1;have hsn:=jW o (l.drop f);rw[h1]at hsn;obtain⟨u,hu⟩:=az (bs (l.drop f));rw[<-hu]at hex hsn;have nO:=h_ hsn;have Ap:=h_ (show T.length=al+1 by rw[<-h1,ae,<-pp.out];rfl);have hfs:f<=s.size:=by omega
  have a9k:(f:Int)<=k:=by omega
  clear hinv h1 h2 hpc hsn hu hln pp
  go_wp2_with (first|(at_builtin;(refine eO rfl (.tmp 36) (.tmp 40) _ rfl w.heap.size 9 i1 (.string ⟨#[]⟩) 16 underlying28 hi1 hz1 hz2 hz3 (by decide) _ _ _ (Strs o) rfl fg.out (.string u) rfl rfl (by omega) (by decide) (by omega) ?_);intro v2 w2 hown2 hw2 hb2;have Lh:=h_ hown2;clear hown2;have HB2:=h_ hb2;clear hb2)|fail)
  go_ret;refine⟨_,rfl,?_,HB.out.trans HB2.out⟩;rw[am,Ap.out,nO.out];exact Lh.out

def P0:lH:=⟨false,[],[],false,[],false,[]⟩
abbrev bg(p:lH):Array Value:=#[.bool p.iO,S p.aH,S p.rest,.bool p.bS,S p.q,.bool p.bZ,S p.f]
theorem nH:(prog.info? 68).map (·.size)=some 7:=by kernel_rfl
theorem a3w(w:World):(Instr.alloc 68 true (Value.tuple #[])).run prog w=.ok (.pointer (some ⟨w.heap.size,0,none⟩)) (w.alloc (.cells (bg P0) 68)):=by kernel_rfl
theorem Kr{p:lH}:∀ v∈(bg p).toList,v.oneCell'=true:=by
 intro v hv;simp only[aj,bl,or_false]at hv;rcases hv with e|e|e|e|e|e|e <;>(rw[e];rfl)
theorem SM{tmps:Array Value}{w w2:World}{b:Nat}{p:lH}(h2:tmps.getD 2 undef=.pointer (some ⟨b,0,none⟩))(i:OB w b 68 (bg p) w2){R:lH}(hR:p=R) :
  bodyPost prog f33 (fun e w'=>e=.returned (.agg (bg R))∧Below w.heap.size w w') Exit.ret {tmps:=tmps,defers:=[]} w2:=by
 subst hR;have h2':tmps[2]?.getD undef=.pointer (some ⟨b,0,none⟩):=by simpa using h2
 have hl:=i.load (P:=prog) 68 _ underlying68 rfl nH;refine bodyPost_ret (v:=.agg (bg p)) ?_ rfl ⟨rfl,i.bL⟩;simp[results,results33,asAddr,h2',hl]
theorem jx(c:UInt8)(s:Bytes):(bY c s).1.length<=s.length∧(bY c s).2.1.length<=s.length:=by
 have h:=congrArg List.length (nd c s);rw[ae]at h;by_cases hf:(bY c s).2.2=true
 ·rw[if_pos hf,ag]at h
  omega
 rw[ij c s (by simpa using hf)];simp only[aN];omega
theorem zU(s:Bytes)(w:World)(hl:s.length<=1024000000)(hE:Env w):bN prog 33 #[.string (bs s)] w (.agg (bg (fc s))):=by
 have hsf:fc s=if(bY 58 (bY 63 (bY 35 s).1).1).2.2=true∧qZ (bY 58 (bY 63 (bY 35 s).1).1).1=true then⟨true,(bY 58 (bY 63 (bY 35 s).1).1).1.map dF,(bY 58 (bY 63 (bY 35 s).1).1).2.1,(bY 63 (bY 35 s).1).2.2,(bY 63 (bY 35 s).1).2.1,(bY 35 s).2.2,(bY 35 s).2.1⟩else⟨false,[],(bY 63 (bY 35 s).1).1,(bY 63 (bY 35 s).1).2.2,(bY 63 (bY 35 s).1).2.1,(bY 35 s).2.2,(bY 35 s).2.1⟩:=rfl;obtain⟨R,hR⟩:=az (fc s);rw[<-hR];rw[<-hR]at hsf;clear hR;have l1:=jx 35 s;have k1:=fun(W:World) (hW:Below w.heap.size w W)=>jE s [35] W hl (hE.below hW);rw[Ed]at k1;generalize bY 35 s=C1 at *;obtain⟨a,f,hf⟩:=C1;simp only at hsf l1 k1;have l2:=jx 63 a;have k2:=fun(W:World) (hW:Below w.heap.size w W)=>jE a [63] W (by omega) (hE.below hW);rw[Ed]at k2;generalize bY 63 a=C2 at *;obtain⟨b,q,hq⟩:=C2;simp only at hsf l2 k2;have l3:=jx 58 b;have k3:=fun(W:World) (hW:Below w.heap.size w W)=>jE b [58] W (by omega) (hE.below hW);rw[Ed]at k3;generalize bY 58 b=C3 at *;obtain⟨c,d,hc⟩:=C3;simp only at hsf l3 k3;have kn:=fun W=>Hs c W (by omega);have kl:=fun W=>sX c W (by unfold maxLen;omega);generalize qZ c=sn at hsf kn;obtain⟨S0,hS0⟩:=az (bs s);obtain⟨SA,hSA⟩:=az (bs a);obtain⟨SB,hSB⟩:=az (bs b);obtain⟨SC,hSC⟩:=az (bs c);have K1:=h_ (show ∀W,Below w.heap.size w W->bN prog 68 #[.string S0,.string ⟨#[35]⟩] W (.tuple #[.string SA,S f,.bool hf])from by rw[hS0,hSA];exact k1);have K2:=h_ (show ∀W,Below w.heap.size w W->bN prog 68 #[.string SA,.string ⟨#[63]⟩] W (.tuple #[.string SB,S q,.bool hq])from by rw[hSA,hSB];exact k2);have K3:=h_ (show ∀W,Below w.heap.size w W->bN prog 68 #[.string SB,.string ⟨#[58]⟩] W (.tuple #[.string SC,S d,.bool hc])from by rw[hSB,hSC];exact k3);have KN:=h_ (show ∀W,bV prog 69 #[.string SC] W (.bool sn)from by rw[hSC];exact kn);have KL:=h_ (show ∀W,bN prog 70 #[.string SC] W (S (c.map dF))from by rw[hSC];exact kl);have HSB:=h_ hSB;rw[<-hS0];have Zo:=h_ hsf;clear k1 k2 k3 kn kl hS0 hSA hSB hSC l1 l2 l3 hsf hl hE;generalize c.map dF=cl at *;go_enter func33,ntmps33
 go_upto_region 2 with(first
  |(refine aS rfl 68 rfl _ _ (a3w _) ?_)
  |fail)
 have h4:=OB.fresh w 68 (bg P0);obtain⟨w1,hw1⟩:=az (w.alloc (.cells (bg P0) 68));rw[<-hw1]at h4 ⊢;have hz1:w1.heap.size=w.heap.size+1:=by rw[hw1];simp
 have h6:=OB.fresh w1 68 (bg P0);rw[hz1]at h6
 try rw[hz1]
 have H4:=h_ h4;clear h4;clear hw1;obtain⟨w2,hw2⟩:=az (w1.alloc (.cells (bg P0) 68));rw[<-hw2]at h6 ⊢;clear hw2;have H6:=h_ h6;clear h6;have IM:=h_ (show ∀W,Below w1.heap.size w1 W->Below w.heap.size w W from fun W hW=>iK H4.out.bL hW);clear hz1
 go_upto_region 3 with(first
  |(go_at_call 68;refine(K1.out _ (IM.out _ H6.out.bL)).mono ?_;rintro e w3 ⟨rfl,hb⟩;have H63:=h_ (H6.out.below hb);clear hb)
  |(refine oX rfl 9 (.tmp 13) (.tmp 11) rfl w1 (w.heap.size+1) 68 (bg P0) H63.out 6 (S f) rfl rfl (show 6<7 by decide) bU.1 rfl (bg {P0 with f:=f}) rfl ?_;intro w4 i _ _;have Ua:=h_ i;clear i)
  |(refine oX rfl 4 (.tmp 14) (.tmp 12) rfl w1 (w.heap.size+1) 68 (bg {P0 with f:=f}) Ua.out 5 (.bool hf) rfl rfl (show 5<7 by decide) bU.2.2 rfl (bg {P0 with f:=f,bZ:=hf}) rfl ?_;intro w5 i _ _;have Oz:=h_ i;clear i)
  |fail)
 clear H6 H63 Ua
 go_upto_region 4 with(first
  |(go_at_call 68;refine(K2.out _ (IM.out _ Oz.out.bL)).mono ?_;rintro e w6 ⟨rfl,hb⟩;have XK:=h_ (Oz.out.below hb);clear hb)
  |(refine oX rfl 9 (.tmp 21) (.tmp 19) rfl w1 (w.heap.size+1) 68 (bg {P0 with f:=f,bZ:=hf}) XK.out 4 (S q) rfl rfl (show 4<7 by decide) bU.1 rfl (bg {P0 with f:=f,bZ:=hf,q:=q}) rfl ?_;intro w7 i _ _;have Uw:=h_ i;clear i)
  |(refine oX rfl 4 (.tmp 22) (.tmp 20) rfl w1 (w.heap.size+1) 68 (bg {P0 with f:=f,bZ:=hf,q:=q}) Uw.out 3 (.bool hq) rfl rfl (show 3<7 by decide) bU.2.2 rfl (bg {P0 with f:=f,bZ:=hf,q:=q,bS:=hq}) rfl ?_;intro w8 i _ _;have XL:=h_ i;clear i)
  |fail)
 clear Oz XK Uw
 go_upto_region 5 with(first
  |(refine oX rfl 9 (.tmp 24) (.tmp 23) rfl w1 (w.heap.size+1) 68 (bg {P0 with f:=f,bZ:=hf,q:=q,bS:=hq}) XL.out 2 (.string SB) rfl rfl (show 2<7 by decide) bU.1 rfl (bg {P0 with f:=f,bZ:=hf,q:=q,bS:=hq,rest:=b}) (by rw[HSB.out];rfl) ?_;intro w9 i _ _;have H69:=h_ i;clear i)
  |fail)
 clear XL
 go_upto_region 6 with(first
  |(go_at_call 68;refine(K3.out _ (IM.out _ H69.out.bL)).mono ?_;rintro e BX ⟨rfl,hb⟩;have H70:=h_ (H69.out.below hb);clear hb)
  |fail)
 clear H69;cases hc with
 |false =>
  have HR:=h_ (show R=⟨false,[],b,hq,q,hf,f⟩from Zo.out)
  go_upto_region 10 with(first
   |(go_at_call 69;refine(KN.out _).mono ?_;rintro e Uu ⟨rfl,hw⟩;subst hw)
   |fail)
  have Fz:=h_ (H4.out.below H70.out.bL)
  go_wp2_with (first
   |(refine DH rfl 68 (.tmp 3) rfl w1 (w.heap.size+1) 68 (bg {P0 with f:=f,bZ:=hf,q:=q,bS:=hq,rest:=b}) H70.out _ rfl underlying68 rfl nH ?_)
   |(refine Nd rfl 68 (.tmp 2) (.tmp 42) rfl w w.heap.size 68 (bg P0) Fz.out 0 (bg {P0 with f:=f,bZ:=hf,q:=q,bS:=hq,rest:=b}).toList rfl rfl (af _) nH Kr (bg {P0 with f:=f,bZ:=hf,q:=q,bS:=hq,rest:=b}) rfl ?_;intro w12 i;have FA:=h_ i;clear i)
   |fail)
  exact SM rfl FA.out (by rw[HR.out];rfl)
 |true =>
  cases sn with
  |false =>
   have HR:=h_ (show R=⟨false,[],b,hq,q,hf,f⟩from Zo.out)
   go_upto_region 10 with(first
    |(go_at_call 69;refine(KN.out _).mono ?_;rintro e Uu ⟨rfl,hw⟩;subst hw)
    |fail)
   have Fz:=h_ (H4.out.below H70.out.bL)
   go_wp2_with (first
    |(refine DH rfl 68 (.tmp 3) rfl w1 (w.heap.size+1) 68 (bg {P0 with f:=f,bZ:=hf,q:=q,bS:=hq,rest:=b}) H70.out _ rfl underlying68 rfl nH ?_)
    |(refine Nd rfl 68 (.tmp 2) (.tmp 42) rfl w w.heap.size 68 (bg P0) Fz.out 0 (bg {P0 with f:=f,bZ:=hf,q:=q,bS:=hq,rest:=b}).toList rfl rfl (af _) nH Kr (bg {P0 with f:=f,bZ:=hf,q:=q,bS:=hq,rest:=b}) rfl ?_;intro w12 i;have FA:=h_ i;clear i)
    |fail)
   exact SM rfl FA.out (by rw[HR.out];rfl)
  |true =>
   have HR:=h_ (show R=⟨true,cl,d,hq,q,hf,f⟩from Zo.out)
   go_upto_region 10 with(first
    |(go_at_call 69;refine(KN.out _).mono ?_;rintro e Uu ⟨rfl,hw⟩;subst hw)
    |(go_at_call 70;refine(KL.out _).mono ?_;rintro e w13 ⟨rfl,hb⟩;have H73:=h_ (H71.out.below hb);clear hb)
    |(refine oX rfl 4 (.tmp 36) (.const (.bool true)) rfl w1 (w.heap.size+1) 68 (bg {P0 with f:=f,bZ:=hf,q:=q,bS:=hq,rest:=b}) H70.out 0 (.bool true) rfl rfl (show 0<7 by decide) bU.2.2 rfl (bg {P0 with f:=f,bZ:=hf,q:=q,bS:=hq,rest:=b,iO:=true}) rfl ?_;intro w12 i _ _;have H71:=h_ i;clear i)
    |(refine oX rfl 9 (.tmp 39) (.tmp 38) rfl w1 (w.heap.size+1) 68 (bg {P0 with f:=f,bZ:=hf,q:=q,bS:=hq,rest:=b,iO:=true}) H73.out 1 (S cl) rfl rfl (show 1<7 by decide) bU.1 rfl (bg {P0 with f:=f,bZ:=hf,q:=q,bS:=hq,rest:=b,iO:=true,aH:=cl}) rfl ?_;intro w14 i _ _;have H74:=h_ i;clear i)
    |(refine oX rfl 9 (.tmp 41) (.tmp 40) rfl w1 (w.heap.size+1) 68 (bg {P0 with f:=f,bZ:=hf,q:=q,bS:=hq,rest:=b,iO:=true,aH:=cl}) H74.out 2 (S d) rfl rfl (show 2<7 by decide) bU.1 rfl (bg {P0 with f:=f,bZ:=hf,q:=q,bS:=hq,rest:=d,iO:=true,aH:=cl}) rfl ?_;intro w15 i _ _;have H75:=h_ i;clear i)
    |fail)
   have Fz:=h_ (H4.out.below H75.out.bL)
   go_wp2_with (first
    |(refine DH rfl 68 (.tmp 3) rfl w1 (w.heap.size+1) 68 (bg {P0 with f:=f,bZ:=hf,q:=q,bS:=hq,rest:=d,iO:=true,aH:=cl}) H75.out _ rfl underlying68 rfl nH ?_)
    |(refine Nd rfl 68 (.tmp 2) (.tmp 42) rfl w w.heap.size 68 (bg P0) Fz.out 0 (bg {P0 with f:=f,bZ:=hf,q:=q,bS:=hq,rest:=d,iO:=true,aH:=cl}).toList rfl rfl (af _) nH Kr (bg {P0 with f:=f,bZ:=hf,q:=q,bS:=hq,rest:=d,iO:=true,aH:=cl}) rfl ?_;intro w12 i;have FA:=h_ i;clear i)
    |fail)
   exact SM rfl FA.out HR.out.symm
end Go.Proofs.YtmndlfglgcioeaaGreatDoor
