/- AthH AthK UrlB WlkC WlkE WlkF WlkG PrsI WlkD: joined. -/
import Derived.Deep.DeepCutAuto
import Derived.Test.YtmndlfglgcioeaaGreatDoorGHlwA
import Derived.Test.YtmndlfglgcioeaaGreatDoorGFouA
set_option maxHeartbeats 40000000
namespace Go.Proofs.YtmndlfglgcioeaaGreatDoor
open Tryz
open Go.RowKit
set_option maxRecDepth 10000
def Fu (l:Bytes):Option (Bytes×Bytes×Bytes):=match xl l with
 |none=>some (l,[],[])
 |some (who,rest)=>if rest=[]then none else some (rest,df 5 (oV who).1,df 5 (oV who).2)
theorem Em (aC l:Bytes):jk aC l=match Fu l with|none=>none|some (s,u,p)=>ri aC s u p:=by
 unfold jk Fu
 cases xl l with
 |none=>rfl
 |some v =>
  obtain⟨a,b⟩:=v
  dsimp only
  split <;>rfl
def IS (s:Bytes):Option (Bytes×Bytes):=match lM false s with
 |none=>some (s,[])
 |some k=>if s.take k=[]then none else some (s.take k,s.drop (k+1))
theorem Fp (aC s u p:Bytes):ri aC s u p=match IS s with|none=>none|some (n,q)=>zJ aC n q u p:=by
 unfold ri IS
 rw[SI]
 cases lM false s with
 |none=>rfl
 |some k =>
  simp only[uN]
  split <;>rfl
theorem JY {tmps:Array Value} {w w2:World} {b:Nat} {a:oL} {q:Bool} (h2:tmps.getD 4 undef=.pointer (some ⟨b,0,none⟩)) (h3:tmps.getD 5 undef=.bool q) (i:OB w b 151 (bD a) w2) (a8:a.host.six.length=8) {R:Option oL} (hR:a=R.getD A0) (hq:q=R.isSome) :
  bodyPost prog f134 (fun e w'=>e=Yo R∧Below w.heap.size w w') Exit.ret {tmps:=tmps,defers:=[]} w2:=by
 have h2':tmps[4]?.getD undef=.pointer (some ⟨b,0,none⟩):=by simpa using h2
 have h3':tmps[5]?.getD undef=.bool q:=by simpa using h3
 have hl:=i.load (P:=prog) 151 _ underlying151 rfl (by rw[eR a8];exact oR)
 refine bodyPost_ret (v:=.tuple #[.agg (bD a),.bool q]) ?_ rfl ⟨by rw[hR,hq],i.bq⟩
 simp[results,results134,asAddr,h2',h3',hl]
theorem Nf {ops:Array Oper} {rest:List Oper} {o:Oper} {a:Act} {w:World} {Q:Exit->Act->World->Prop} (hgd:o.guard=none) (x y:Operand) (ho:o.op=.store 151 x y) (w0:World) (b:Nat) (a0 a1:oL) (i:OB w0 b 151 (bD a0) w)
  (h0:a0.host.six.length=8) (h1:a1.host.six.length=8) (hx:a.eval x=.pointer (some ⟨b,0,none⟩)) (hy:a.eval y=.agg (bD a1))
  (K:∀ w',OB w0 b 151 (bD a1) w'->wpList prog ops Q rest (a.put o.dst undef) w'):wpList prog ops Q (o::rest) a w :=
 Hu hgd 151 x y ho w0 b 151 (bD a0) i 0 (jj a1) hx hy (by rw[eR h0,oS h1];exact ae _) (by rw[oS h1];exact oR) Ek (bD a1) (ll _ _ (by rw[oS h0,oS h1])) K
theorem Dd {s n q:Bytes} (h:IS s=some (n,q)):n.length<=s.length∧q.length<=s.length:=by
 unfold IS at h
 split at h
 ·injection h with h
  injection h with h1 h2
  subst h1;subst h2
  simp
 split at h
 ·cases h
 injection h with h
 injection h with h1 h2
 subst h1;subst h2
 rw[aA,ai]
 omega
theorem DI {l s u p:Bytes} (h:Fu l=some (s,u,p)):s.length<=l.length:=by
 unfold Fu at h
 rcases Eh l with⟨_,e⟩|⟨i,hi,_,e⟩
 ·rw[e]at h
  injection h with h
  injection h with h1 h2
  rw[h1];exact ae _
 rw[e]at h
 dsimp only at h
 split at h
 ·cases h
 injection h with h
 injection h with h1 h2
 rw[<-h1,ai];omega
theorem Bo (aC l:Bytes) (w:World) (hl:l.length<=307200000) (hS:∀ s u p n q,Fu l=some (s,u,p)->IS s=some (n,q)->Short n) (hE:Env w):Calls prog 134 #[.string (bs aC),.string (bs l)] w fun e w'=>e=Yo (jk aC l)∧Below w.heap.size w w':=by
 obtain⟨R,hR⟩:=ap (jk aC l)
 rw[<-hR]
 rw[Em]at hR
 have HR:=h_ hR;clear hR
 have XL:=h_ hS;clear hS
 have LN:=fun W=>Any.strings_LastIndexByte laysLib (bs l) 64 (by rw[aB];omega) W
 have hla:=Eh l
 obtain⟨I,hI⟩:=ap (Lib.lastIndexByte (bs l) 64)
 have zW:∀ W,Calls prog 166 #[.string (bs l),.int .u8 64] W fun e w'=>e=.returned (.int .i64 I)∧w'=W:=by rw[hI];exact LN
 rw[<-hI]at hla
 have yN:=h_ zW;clear zW LN hI
 have hsp:=fun W=>fq aC W
 have hpo:=fun q W (hq:q.length<=1024000000)=>F0 aC q W hq
 obtain⟨ss,hss⟩:=ap (bs aC)
 rw[<-hss]at hsp hpo ⊢
 clear hss
 have gF:=h_ hsp;clear hsp
 have FP:=h_ hpo;clear hpo
 obtain⟨s,hs⟩:=ap (bs l)
 have hsz:s.size=l.length:=by rw[hs,aB]
 have hx1:∀ k,s.extract 0 k=bs (l.take k):=fun k=>by rw[hs,bM,dx,nG]
 have hx2:∀ k,s.extract k s.size=bs (l.drop k):=fun k=>by rw[hs,bM,aB,aI (by rw[ai];omega)]
 have HS:=h_ hs
 rw[<-hs]at yN ⊢
 clear hs
 obtain⟨N,hN⟩:=ap (s.size)
 have jF:s.size=N:=hN.symm
 rw[jF]at hx2
 have pg:N<=307200000:=by omega
 have mW:N=l.length:=by omega
 have Ua:=h_ hx1;clear hx1
 have Ub:=h_ hx2;clear hx2
 have IJ:=h_ hla;clear hla
 have HE:=h_ hE;clear hE
 have XH:=h_ mW
 have HL:=h_ hl
 clear hsz hl hN mW
 go_enter func134,ntmps134
 go_upto_if 19 with(first
  |(refine aE rfl 151 rfl _ _ (allA _) ?_)
  |(go_at_call 166;refine(yN.out _).mono ?_;rintro e w2 ⟨rfl,hw2⟩;subst hw2)
  |fail)
 have h4:=OB.fresh w 151 (bD A0)
 obtain⟨w1,hw1⟩:=ap (w.alloc (.cells (bD A0) 151))
 rw[<-hw1]at h4 ⊢
 have hz1:w1.heap.size=w.heap.size+1:=by rw[hw1];simp
 have h6:=OB.fresh w1 151 (bD A0)
 rw[hz1]at h6
 have H4:=h_ h4;clear h4
 clear hw1
 obtain⟨w2,hw2⟩:=ap (w1.alloc (.cells (bD A0) 151))
 rw[<-hw2]at h6 ⊢
 clear hw2
 have H6:=h_ h6;clear h6
 have HZ:=h_ hz1;clear hz1
 go_cut [1] (fun sv wx=>∃ s2 u p,Fu l=some (s2,u,p)∧sv=.string (bs s2)∧Hid (OB w1 (w.heap.size+1) 151 (bD {A0 with user:=u,pass:=p}) wx))
 case first =>
  rcases IJ.out with⟨e1,e2⟩|⟨i,hi,e1,e2⟩
  ·subst e1
   have hst:Fu l=some (l,[],[]):=by unfold Fu;rw[e2]
   have HST:=h_ hst;clear hst e2 IJ
   go_wp2_with fail
   go_meet
   case rel=>exact⟨l,[],[],HST.out,by rw[HS.out],H6.out⟩
  subst e1
  have e3:=Ua.out i
  have e4:=Ub.out (i+1)
  have hst:Fu l=if l.drop (i+1)=[]then none else some (l.drop (i+1),df 5 (oV (l.take i)).1,df 5 (oV (l.take i)).2):=by unfold Fu;rw[e2]
  have kK:=fun W (hW:Below w.heap.size w W)=>gy (l.take i) [58] W (by rw[aA];have:=HL.out;omega) (HE.out.below hW)
  rw[z7]at kK
  rw[KA]at hst
  have hlen:(bR 58 (l.take i)).1.length<=307200000∧(bR 58 (l.take i)).2.1.length<=307200000:=by
   have h:=congrArg List.length (kR 58 (l.take i))
   have hq:(bR 58 (l.take i)).2.2=false->(bR 58 (l.take i)).2.1=[]:=fu 58 _
   rw[af]at h
   have:=HL.out
   by_cases hf:(bR 58 (l.take i)).2.2=true
   ·rw[if_pos hf,ag,aA]at h
    omega
   rw[if_neg hf,aQ,aA]at h
   rw[hq (by simpa using hf)]
   simp only[aQ]
   omega
  have hin:i+1<=N:=by have:=XH.out;omega
  generalize bR 58 (l.take i)=C at kK hst hlen
  obtain⟨c1,c2,c3⟩:=C
  simp only at hst hlen kK
  have hp1:=fun W=>eo 5 c1 W (by omega)
  have hp2:=fun W=>eo 5 c2 W (by omega)
  generalize l.take i=who at e3 kK
  obtain⟨r,hr⟩:=ap (bs (l.drop (i+1)))
  have hre:r.toList=[] ↔ l.drop (i+1)=[]:=by rw[hr,au]
  rw[<-hr]at e4
  have HRR:=h_ hr;clear hr
  generalize l.drop (i+1)=rest at hst hre HRR
  generalize df 5 c1=u at hst hp1
  generalize df 5 c2=p at hst hp2
  obtain⟨k1,hk1⟩:=ap (bs c1)
  obtain⟨k2,hk2⟩:=ap (bs c2)
  have Vo:∀ W,Below w.heap.size w W->Calls prog 68 #[.string (bs who),.string ⟨#[58]⟩] W fun e w'=>e=.returned (.tuple #[.string k1,.string k2,.bool c3])∧Below W.heap.size W w':=by rw[hk1,hk2];exact kK
  rw[<-hk1]at hp1
  rw[<-hk2]at hp2
  clear hk1 hk2 kK hlen
  generalize bs who=wh at e3 Vo
  have jO:=h_ Vo;clear Vo
  have yA:=h_ hp1;clear hp1
  have HP2:=h_ hp2;clear hp2
  have HST:=h_ hst;clear hst e2 IJ
  have hn:((i:Int)+1)=((i+1:Nat):Int):=by omega
  have hwr:IntKind.i64.wrap ((i:Int)+1)=((i+1:Nat):Int):=by rw[hn];exact IntWalk.i64_in _ (by omega)
  have hin2:(((i+1:Nat):Int))<=N:=by omega
  have hii:(i:Int)<=N:=by omega
  generalize i+1=i1 at e4 hwr hin hin2
  clear hn
  have DU:=h_ (show ∀W,Below w1.heap.size w1 W->Below w.heap.size w W from fun W hW=>fJ H4.out.bq hW)
  go_upto_region 5 with(first
   |(go_at_call 68;refine(jO.out _ (DU.out _ H6.out.bq)).mono ?_;rintro e w3 ⟨rfl,hb3⟩;have Xn:=h_ (H6.out.below hb3);clear hb3)
   |fail)
  clear H6 jO
  go_upto_region 6 with(first
   |(go_at_call 132;refine(yA.out _).mono ?_;rintro e w4 ⟨rfl,hb4⟩;have N9:=h_ (Xn.out.below hb4);clear hb4)
   |(refine mB rfl 9 (.tmp 30) (.tmp 29) rfl w1 (w.heap.size+1) 151 (bD A0) N9.out 0 (S u) rfl rfl (by rw[eR rfl];decide) bF.1 rfl (bD {A0 with user:=u}) (Ka A0 u) ?_;intro w5 i5 _ _;have Jh:=h_ i5;clear i5)
   |fail)
  clear Xn N9 yA
  go_upto_region 7 with(first
   |(go_at_call 132;refine(HP2.out _).mono ?_;rintro e w6 ⟨rfl,hb6⟩;have Rr:=h_ (Jh.out.below hb6);clear hb6)
   |(refine mB rfl 9 (.tmp 33) (.tmp 32) rfl w1 (w.heap.size+1) 151 (bD {A0 with user:=u}) Rr.out 1 (S p) rfl rfl (by rw[eR rfl];decide) bF.1 rfl (bD {A0 with user:=u,pass:=p}) (J6 {A0 with user:=u} p) ?_;intro w7 i7 _ _;have OC:=h_ i7;clear i7)
   |fail)
  clear Jh Rr HP2
  by_cases hrn:rest=[]
  ·have hst:=HST.out
   rw[if_pos hrn]at hst
   have he:=hre.mpr hrn
   have he1:r.toList.isEmpty=true:=by rw[he];rfl
   have hR:=HR.out
   rw[hst]at hR
   have gW:=h_ (show R=none from hR)
   have A9:=h_ (H4.out.below (OC.out.bq))
   clear hst hR hre
   go_wp2_with (first
    |(refine bG rfl 151 #[] rfl (.agg (bD A0)) #[] rfl Eu ?_)
    |(refine Nf rfl (.tmp 4) (.tmp 40) rfl w w.heap.size A0 A0 A9.out rfl rfl rfl rfl ?_;intro w8 i8;have Ba:=h_ i8;clear i8)
    |fail)
   exact JY rfl rfl Ba.out rfl (by rw[gW.out];rfl) (by rw[gW.out];rfl)
  have hst:=HST.out
  rw[if_neg hrn]at hst
  have he:¬ r.toList=[]:=fun h=>hrn (hre.mp h)
  have he1:r.toList.isEmpty=false:=by simpa using he
  have Jn:=h_ hst
  clear hst hre
  go_wp2_with fail
  go_meet
  case rel=>exact⟨rest,u,p,Jn.out,by rw[HRR.out],OC.out⟩
 case rest =>
  obtain⟨s2,u,p,hst,rfl,h6⟩:=hcut
  clear H6 IJ Ua Ub yN HS XH pg jF
  have hl2:=DI hst
  have Jo:=h_ hst
  have hR:=HR.out
  rw[hst]at hR
  replace hR:R=ri aC s2 u p:=hR
  have hl3:s2.length<=307200000:=by have:=HL.out;omega
  rw[Fp]at hR
  have hco:=fun W=>Gk s2 W (by omega)
  have hnq:IS s2=match lM false s2 with|none=>some (s2,[])|some k=>if s2.take k=[]then none else some (s2.take k,s2.drop (k+1)):=rfl
  have hnl:=fun n q (h:IS s2=some (n,q))=>Dd h
  have hcl:=fun k (h:lM false s2=some k)=>Ex false s2 k h
  obtain⟨C,hC⟩:=ap (lM false s2)
  rw[<-hC]at hnq hco hcl
  clear hC
  have u4:=h_ hnq;clear hnq
  have XH:=h_ hnl;clear hnl
  have qS:=h_ hcl;clear hcl
  have HRR:=h_ hR;clear hR hst HR
  have H6:=h_ h6;clear h6
  have HL3:=h_ hl3;clear hl3 hl2
  obtain⟨s,hs⟩:=ap (bs s2)
  have hsz:s.size=s2.length:=by rw[hs,aB]
  have hx1:∀ k,s.extract 0 k=bs (s2.take k):=fun k=>by rw[hs,bM,dx,nG]
  have hx2:∀ k,s.extract k s.size=bs (s2.drop k):=fun k=>by rw[hs,bM,aB,aI (by rw[ai];omega)]
  have HS:=h_ hs
  rw[<-hs]at hco ⊢
  have HCO:=h_ hco;clear hco hs
  obtain⟨N,hN⟩:=ap (s.size)
  have jF:s.size=N:=hN.symm
  rw[jF]at hx2
  have pg:N<=307200000:=by have:=HL3.out;omega
  have mW:N=s2.length:=by omega
  have Ua:=h_ hx1;clear hx1
  have Ub:=h_ hx2;clear hx2
  have yO:=h_ mW;clear mW hN hsz
  go_upto_if 45 with(first
   |(go_at_call 167;refine(HCO.out _).mono ?_;rintro e w3 ⟨rfl,hw3⟩;subst hw3)
   |fail)
  go_cut [11,12] (fun nv pv wx=>∃ n q,IS s2=some (n,q)∧nv=.string (bs n)∧pv=.string (bs q)∧Hid (OB w1 (w.heap.size+1) 151 (bD {A0 with user:=u,pass:=p}) wx))
  case first =>
   cases C with
   |none =>
    have HQ:=h_ (show IS s2=some (s2,[])from u4.out)
    have hm1:¬ (0:Int)<=-1:=by omega
    simp only[Wb]
    go_wp2_with fail
    go_meet
    case rel=>exact⟨s2,[],HQ.out,by rw[HS.out],rfl,H6.out⟩
   |some k =>
    have hlt:=qS.out k rfl
    have hnq:IS s2=if s2.take k=[]then none else some (s2.take k,s2.drop (k+1)):=u4.out
    have e3:=Ua.out k
    have e4:=Ub.out (k+1)
    have hn:((k:Int)+1)=((k+1:Nat):Int):=by omega
    have hkN:k+1<=N:=by have:=yO.out;omega
    have hwr:IntKind.i64.wrap ((k:Int)+1)=((k+1:Nat):Int):=by rw[hn];exact IntWalk.i64_in _ (by omega)
    have hin2:(((k+1:Nat):Int))<=N:=by omega
    have hii:(k:Int)<=N:=by omega
    obtain⟨nm,hnm⟩:=ap (bs (s2.take k))
    obtain⟨qq,hqq⟩:=ap (bs (s2.drop (k+1)))
    have hre:nm.toList=[] ↔ s2.take k=[]:=by rw[hnm,au]
    rw[<-hnm]at e3
    rw[<-hqq]at e4
    have lS:=h_ hnm;clear hnm
    have HQQ:=h_ hqq;clear hqq
    generalize s2.take k=n at hnq hre lS
    generalize s2.drop (k+1)=q at hnq HQQ
    generalize k+1=k1 at e4 hwr hin2 hkN
    clear hn hlt
    have rr:=h_ hnq;clear hnq
    simp only[Wb]
    by_cases hrn:n=[]
    ·have hst:=rr.out
     rw[if_pos hrn]at hst
     have he:=hre.mpr hrn
     have he1:nm.toList.isEmpty=true:=by rw[he];rfl
     have hR:=HRR.out
     rw[hst]at hR
     have gW:=h_ (show R=none from hR)
     clear hst hR hre
     go_wp2_with fail
     go_quiet (fail)
     have H62:=h_ (H6.out.below (ma (n:=nq) (aG _)))
     have A9:=h_ (H4.out.below (H62.out.bq))
     go_wp2_with (first
      |(refine bG rfl 151 #[] rfl (.agg (bD A0)) #[] rfl Eu ?_)
      |(refine Nf rfl (.tmp 4) (.tmp 55) rfl w w.heap.size A0 A0 A9.out rfl rfl rfl rfl ?_;intro w8 i8;have Ba:=h_ i8;clear i8)
      |fail)
     exact JY rfl rfl Ba.out rfl (by rw[gW.out];rfl) (by rw[gW.out];rfl)
    have hst:=rr.out
    rw[if_neg hrn]at hst
    have he:¬ nm.toList=[]:=fun h=>hrn (hre.mp h)
    have he1:nm.toList.isEmpty=false:=by simpa using he
    have Jn:=h_ hst
    clear hst hre
    go_wp2_with fail
    go_quiet (fail)
    have H62:=h_ (H6.out.below (ma (n:=nq) (aG _)))
    go_wp2_with fail
    go_meet
    case rel=>exact⟨n,q,Jn.out,by rw[lS.out],by rw[HQQ.out],H62.out⟩
  case rest =>
   obtain⟨n,q,hst,rfl,rfl,h6⟩:=hcut
   clear H6 u4 qS Ua Ub HCO HS yO pg jF
   have hnl:=XH.out n q hst
   have hR:=HRR.out
   rw[hst]at hR
   replace hR:R=zJ aC n q u p:=hR
   have hl3:n.length<=307200000∧q.length<=307200000:=by have:=HL3.out;omega
   have hho:=fun W (hW:Below w.heap.size w W)=>tc n (ep aC) W (XL.out s2 u p n q Jo.out hst) (HE.out.below hW)
   have hpo:=fun W=>FP.out q W (by omega)
   unfold zJ at hR
   have h8:=fun g (h:el n (ep aC)=some g)=>(mr (hkind h)).l
   generalize ep aC=SP at *
   obtain⟨HO,hHO⟩:=ap (el n SP)
   obtain⟨PO,Za⟩:=ap (Pe aC q)
   rw[<-hHO]at hR hho h8
   rw[<-Za]at hR hpo
   clear hHO Za hst XH HRR FP hnl hl3 HL3
   obtain⟨nb,hnb⟩:=ap (bs n)
   obtain⟨qb,hqb⟩:=ap (bs q)
   rw[<-hnb]at hho ⊢
   rw[<-hqb]at hpo ⊢
   clear hnb hqb
   have DU:=h_ (show ∀W,Below w1.heap.size w1 W->Below w.heap.size w W from fun W hW=>fJ H4.out.bq hW)
   have HP:=h_ hpo;clear hpo
   have H6:=h_ h6;clear h6
   cases HO with
   |none =>
    have HH:=h_ (show ∀W,Below w.heap.size w W->Calls prog 160 #[.string nb,.bool SP] W fun e w'=>e=.returned (.tuple #[.agg (bp H0),.bool false])∧Below W.heap.size W w' from hho)
    have HR:=h_ (show R=none from hR)
    clear hho hR h8
    go_upto_region 17 with(first
     |(go_at_call 96;refine(gF.out _).mono ?_;rintro e w3 ⟨rfl,hw3⟩;subst hw3)
     |(go_at_call 160;refine(HH.out _ (DU.out _ H6.out.bq)).mono ?_;rintro e w4 ⟨rfl,hb4⟩;have N9:=h_ (H6.out.below hb4);clear hb4)
     |(refine aE rfl 27 rfl _ _ (oP _) ?_)
     |(refine yp rfl (.tmp 14) (.tmp 61) rfl H0 rfl rfl rfl rfl ?_;intro W2 hh hb;have HHB:=h_ hh;have Jh:=h_ (N9.out.below hb);clear hh hb)
     |fail)
    have A9:=h_ (H4.out.below (Jh.out.bq))
    go_wp2_with (first
     |(refine bG rfl 151 #[] rfl (.agg (bD A0)) #[] rfl Eu ?_)
     |(refine Nf rfl (.tmp 4) (.tmp 65) rfl w w.heap.size A0 A0 A9.out rfl rfl rfl rfl ?_;intro w8 i8;have Ba:=h_ i8;clear i8)
     |fail)
    exact JY rfl rfl Ba.out rfl (by rw[HR.out];rfl) (by rw[HR.out];rfl)
   |some g =>
    have HH:=h_ (show ∀W,Below w.heap.size w W->Calls prog 160 #[.string nb,.bool SP] W fun e w'=>e=.returned (.tuple #[.agg (bp g),.bool true])∧Below W.heap.size W w' from hho)
    have G8:=h_ (h8 g rfl)
    clear hho h8
    dsimp only at hR
    go_upto_region 17 with(first
     |(go_at_call 96;refine(gF.out _).mono ?_;rintro e w3 ⟨rfl,hw3⟩;subst hw3)
     |(go_at_call 160;refine(HH.out _ (DU.out _ H6.out.bq)).mono ?_;rintro e w4 ⟨rfl,hb4⟩;have N9:=h_ (H6.out.below hb4);clear hb4)
     |(refine aE rfl 27 rfl _ _ (oP _) ?_)
     |(refine yp rfl (.tmp 14) (.tmp 61) rfl g G8.out rfl rfl rfl ?_;intro W2 hh hb;have HHB:=h_ hh;have Jh:=h_ (N9.out.below hb);clear hh hb)
     |fail)
    clear H6 N9
    go_upto_region 20 with(first
     |(refine MD (by rfl) (.tmp 14) rfl _ g HHB.out rfl ?_)
     |(refine Hu rfl 27 (.tmp 67) (.tmp 66) rfl w1 (w.heap.size+1) 151 (bD {A0 with user:=u,pass:=p}) Jh.out 2 (aW g) rfl rfl (by rw[eR rfl];simp[aW,G8.out]) (by rw[gR];simp[aW,G8.out]) iN (bD {A0 with user:=u,pass:=p,host:=g}) (J5 {A0 with user:=u,pass:=p} g G8.out rfl) ?_;intro w5 i5;have Rr:=h_ i5;clear i5)
     |fail)
    clear Jh HHB
    cases PO with
    |none =>
     have HP:=h_ (show ∀W,Calls prog 168 #[.string ss,.string qb] W fun e w'=>e=.returned (.tuple #[.int .i64 0,.bool false,.bool false])∧w'=W from HP.out)
     have HR:=h_ (show R=none from hR)
     clear hR
     go_upto_region 21 with(first
      |(go_at_call 168;refine(HP.out _).mono ?_;rintro e w6 ⟨rfl,Cz⟩;subst Cz)
      |(refine mB rfl 3 (.tmp 75) (.tmp 72) rfl w1 (w.heap.size+1) 151 (bD {A0 with user:=u,pass:=p,host:=g}) Rr.out 14 (.int .i64 0) rfl rfl (by rw[eR G8.out];decide) bF.2.1 rfl (bD {A0 with user:=u,pass:=p,host:=g,port:=0}) (yZ {A0 with user:=u,pass:=p,host:=g} 0 G8.out) ?_;intro w7 i7 _ _;have OC:=h_ i7;clear i7)
      |(refine mB rfl 4 (.tmp 76) (.tmp 73) rfl w1 (w.heap.size+1) 151 (bD {A0 with user:=u,pass:=p,host:=g,port:=0}) OC.out 13 (.bool false) rfl rfl (by rw[eR G8.out];decide) bF.2.2 rfl (bD {A0 with user:=u,pass:=p,host:=g,port:=0,aZ:=false}) (Ej {A0 with user:=u,pass:=p,host:=g,port:=0} false G8.out) ?_;intro w8 i8 _ _;have Rt:=h_ i8;clear i8)
      |fail)
     have A9:=h_ (H4.out.below (Rt.out.bq))
     go_wp2_with (first
      |(refine bG rfl 151 #[] rfl (.agg (bD A0)) #[] rfl Eu ?_)
      |(refine Nf rfl (.tmp 4) (.tmp 79) rfl w w.heap.size A0 A0 A9.out rfl rfl rfl rfl ?_;intro w8 i8;have Ba:=h_ i8;clear i8)
      |fail)
     exact JY rfl rfl Ba.out rfl (by rw[HR.out];rfl) (by rw[HR.out];rfl)
    |some v =>
     obtain⟨v,b⟩:=v
     have HP:=h_ (show ∀W,Calls prog 168 #[.string ss,.string qb] W fun e w'=>e=.returned (.tuple #[.int .i64 v,.bool b,.bool true])∧w'=W from HP.out)
     have HR:=h_ (show R=some {A0 with user:=u,pass:=p,host:=g,port:=v,aZ:=b}from hR)
     clear hR
     go_upto_region 21 with(first
      |(go_at_call 168;refine(HP.out _).mono ?_;rintro e w6 ⟨rfl,Cz⟩;subst Cz)
      |(refine mB rfl 3 (.tmp 75) (.tmp 72) rfl w1 (w.heap.size+1) 151 (bD {A0 with user:=u,pass:=p,host:=g}) Rr.out 14 (.int .i64 v) rfl rfl (by rw[eR G8.out];decide) bF.2.1 rfl (bD {A0 with user:=u,pass:=p,host:=g,port:=v}) (yZ {A0 with user:=u,pass:=p,host:=g} v G8.out) ?_;intro w7 i7 _ _;have OC:=h_ i7;clear i7)
      |(refine mB rfl 4 (.tmp 76) (.tmp 73) rfl w1 (w.heap.size+1) 151 (bD {A0 with user:=u,pass:=p,host:=g,port:=v}) OC.out 13 (.bool b) rfl rfl (by rw[eR G8.out];decide) bF.2.2 rfl (bD {A0 with user:=u,pass:=p,host:=g,port:=v,aZ:=b}) (Ej {A0 with user:=u,pass:=p,host:=g,port:=v} b G8.out) ?_;intro w8 i8 _ _;have Rt:=h_ i8;clear i8)
      |fail)
     obtain⟨A1,hA1⟩:∃ A1:oL,A1={A0 with user:=u,pass:=p,host:=g,port:=v,aZ:=b}:=⟨_,rfl⟩
     have h18:A1.host.six.length=8:=by rw[hA1];exact G8.out
     rw[<-hA1]at Rt
     have HR2:=h_ (show R=some A1 by rw[hA1];exact HR.out)
     clear hA1 HR
     have H18:=h_ h18;clear h18
     have A9:=h_ (H4.out.below (Rt.out.bq))
     go_wp2_with (first
      |(refine zP rfl 151 (.tmp 6) rfl w1 (w.heap.size+1) 151 (bD A1) Rt.out _ rfl underlying151 rfl (by rw[eR H18.out];exact oR) ?_)
      |(refine Nf rfl (.tmp 4) (.tmp 80) rfl w w.heap.size A0 A1 A9.out rfl H18.out rfl rfl ?_;intro w8 i8;have Ba:=h_ i8;clear i8)
      |fail)
     exact JY rfl rfl Ba.out H18.out (by rw[HR2.out];rfl) (by rw[HR2.out];rfl)

structure CB (W:World) (b:Nat) (T:TypeId) (cs:Array Value):Prop where
 a:W.heap[b]? = some (.cells cs T (0,0))
section
variable {W W':World} {b:Nat} {T:TypeId} {cs:Array Value}
theorem CB.lt (i:CB W b T cs):b<W.heap.size:=(bg.1 i.a).1
theorem CB.keep (i:CB W b T cs) (hb:Below W.heap.size W W'):CB W' b T cs:=⟨(hb.block b i.lt).trans i.a⟩
theorem CB.new (W:World) (T:TypeId) (cs:Array Value):CB (W.alloc (.cells cs T)) W.heap.size T cs:=⟨heap_alloc_new W _⟩
theorem CB.cell (i:CB W b T cs) (j:Nat):W.cell? ⟨b,j,none⟩=cs[j]?:=by simp[World.cell?,i.a]
theorem CB.ak (i:CB W b T cs) {j:Nat} {v:Value} (h:cs[j]? = some v):W.cell? ⟨b,j,none⟩=some v:=(i.cell j).trans h
theorem CB.range (i:CB W b T cs) {o:Nat} {vs:List Value} (h:∀ j v,vs[j]? = some v->cs[o+j]? = some v):W.rangeAt b o vs:=fun j v hj=>i.ak (h j v hj)
theorem CB.load {P:Program} (i:CB W b T cs) (ty:TypeId) (d:TypeDesc) (hu:P.underlying ty=some d) (hd:(match d with | .struct _ | .array _ _=>true|_=>false)=true) (hi:(P.info? ty).map (·.size)=some cs.size):(loadVar ty ⟨b,0,none⟩).run P W=.ok (.agg cs) W :=
 run_loadVar_row (P:=P) W b T ty cs (0,0) d i.a hu hd hi
end
section
variable {P:Program} {ops:Array Oper} {rest:List Oper} {o:Oper} {a:Act} {w:World} {Q:Exit->Act->World->Prop}
theorem kf {W:World} (hg:o.guard=none) (T:TypeId) (x y:Operand) (ho:o.op=.store T x y) (cs old:Array Value) (hi:(P.info? T).map (·.size)=some cs.size) (hold:old.size=cs.size) (h1:cs.all (·.oneCell')=true)
  (hW:W=w.alloc (.cells old T)) (hx:a.eval x=.pointer (some ⟨w.heap.size,0,none⟩)) (hy:a.eval y=.agg cs)
  (k:∀ w',CB w' w.heap.size T cs->Below w.heap.size w w'->wpList P ops Q rest (a.put o.dst undef) w'):wpList P ops Q (o::rest) a W:=by
 subst hW
 exact gd hg T x y ho cs old T hx hy hi hold h1 (k _ (CB.new w T cs) ((Below.refl _ _).alloc (ae _) _))
theorem cq (T:TypeId) (x:Operand) (ho:o.op=.load T x) (b:Nat) (cs:Array Value) (d:TypeDesc) (hu:P.underlying T=some d) (hd:(match d with | .struct _ | .array _ _=>true|_=>false)=true) (hi:(P.info? T).map (·.size)=some cs.size)
  (hx:a.eval x=.pointer (some ⟨b,0,none⟩)) (i:CB w b T cs):(execOp a.eval o).run P w=.ok (.value (.agg cs)) w:=by
 have e:=i.load (P:=P) T d hu hd hi
 unfold execOp
 simp only[ho,hx,Instr.loadAt,Instr.sureAddr,Sem.run_bind,Sem.run_pure,Result.andThen_ok,e]
theorem Ta (hg:Region.wanted o (yielded ops a.tmps)=true) (T:TypeId) (x:Operand) (ho:o.op=.load T x) (b:Nat) (cs:Array Value) (d:TypeDesc) (hu:P.underlying T=some d) (hd:(match d with | .struct _ | .array _ _=>true|_=>false)=true) (hi:(P.info? T).map (·.size)=some cs.size)
  (hx:a.eval x=.pointer (some ⟨b,0,none⟩)) (i:CB w b T cs) (k:wpList P ops Q rest (a.put o.dst (.agg cs)) w):wpList P ops Q (o::rest) a w :=
 wT hg (.agg cs) (cq T x ho b cs d hu hd hi hx i) k
theorem dM (T:TypeId) (x:Operand) (ho:o.op=.load T x) (b k:Nat) (vs:List Value) (d:TypeDesc) (hu:P.underlying T=some d) (hd:d.isRow=true) (hi:(P.info? T).map (·.size)=some vs.length)
  (hx:a.eval x=.pointer (some ⟨b,k,none⟩)) (hr:w.rangeAt b k vs):(execOp a.eval o).run P w=.ok (.value (.agg vs.toArray)) w:=by
 have e:=run_loadVar_mid (P:=P) w b k T vs d hr hu hd hi
 unfold execOp
 simp only[ho,hx,Instr.loadAt,Instr.sureAddr,Sem.run_bind,Sem.run_pure,Result.andThen_ok,e]
theorem aF (T:TypeId) (x:Operand) (ho:o.op=.load T x) (b k:Nat) (v:Value) (d:TypeDesc) (hu:P.underlying T=some d) (hd:(match d with | .struct _ | .array _ _=>true|_=>false)=false)
  (hx:a.eval x=.pointer (some ⟨b,k,none⟩)) (hc:w.cell? ⟨b,k,none⟩=some v):(execOp a.eval o).run P w=.ok (.value v) w:=by
 have hagg:(isAgg T).run P w=.ok false w:=by
  unfold isAgg
  rw[Sem.run_bind,run_underlying hu w]
  cases d <;>simp_all
 unfold execOp
 simp only[ho,hx,Instr.loadAt,Instr.sureAddr,Sem.run_bind,Sem.run_pure,Result.andThen_ok]
 have hl:(loadVar T ⟨b,k,none⟩).run P w=.ok v w:=by simp[loadVar,Sem.run_bind,hagg,hc]
 rw[hl]
 rfl
end
section
variable {ops:Array Oper} {rest:List Oper} {o:Oper} {a:Act} {w:World} {Q:Exit->Act->World->Prop}
theorem NH {W:World} (hg:o.guard=none) (x y:Operand) (ho:o.op=.store 151 x y) (h:oL) (hl:h.host.six.length=8) (hW:W=w.alloc (.cells (bD A0) 151)) (hx:a.eval x=.pointer (some ⟨w.heap.size,0,none⟩)) (hy:a.eval y=.agg (bD h))
  (k:∀ w',CB w' w.heap.size 151 (bD h)->Below w.heap.size w w'->wpList prog ops Q rest (a.put o.dst undef) w'):wpList prog ops Q (o::rest) a W :=
 kf hg _ x y ho (bD h) (bD A0) (by rw[eR hl];exact oR) (by rw[eR hl];rfl) (all_oneCell_toArray Ek) hW hx hy k
end
theorem ath_six {aC l:Bytes}:((jk aC l).getD A0).host.six.length=8:=by
 cases h:jk aC l with
 |none=>rfl
 |some a =>
  obtain⟨⟨n,hh,_⟩,_⟩:=El h
  exact(mr (hkind hh)).l

abbrev ah (pv:Value) (u:Url):Array Value:=(bH pv u).toArray
abbrev aD:Value:=.slice none 0 0
theorem dq:(prog.info? 30).map (·.size)=some 23:=by kernel_rfl
theorem gg {pv:Value} {u:Url} (h:u.host.six.length=8):(bH pv u).length=23:=by simp[bH,aW,h]
theorem eL {pv:Value} {u:Url} (h:u.host.six.length=8):(ah pv u).size=23:=by rw[km,gg h]
theorem pP {pv:Value} {u:Url} (h1:pv.oneCell'=true):∀ v∈bH pv u,v.oneCell'=true:=by
 intro v hv
 simp only[bH,bl,aN,ci,or_false]at hv
 rcases hv with((e|e|e)|e)|e|e|e|e|e|e|e|e|e
 all_goals first|exact iN v e|(rw[e];first|rfl|exact h1)
theorem cD (w:World):(Instr.alloc 30 true (Value.tuple #[])).run prog w=.ok (.pointer (some ⟨w.heap.size,0,none⟩)) (w.alloc (.cells (ah aD U0) 30)):=by kernel_rfl
theorem rP:∀ w,(Instr.build 30 #[]).run prog w=.ok (.agg (ah aD U0)) w:=fun w=>by kernel_rfl
structure UAt (cs:Array Value) (pv:Value) (u:Url):Prop where
 aC:cs[0]? = some (S u.aC)
 usr:cs[1]? = some (S u.usr)
 ed:cs[2]? = some (S u.ed)
 kind:cs[3]? = some (.int .i64 u.host.kind)
 name:cs[4]? = some (S u.host.name)
 aZ:cs[14]? = some (.bool u.aZ)
 port:cs[15]? = some (.int .i64 u.port)
 opq:cs[16]? = some (.bool u.opq)
 flat:cs[17]? = some (S u.flat)
 path:cs[18]? = some pv
 bP:cs[19]? = some (.bool u.bP)
 q:cs[20]? = some (S u.q)
 bS:cs[21]? = some (.bool u.bS)
 f:cs[22]? = some (S u.f)
 host:∀ j v,(aW u.host)[j]? = some v->cs[3+j]? = some v
theorem qP (pv:Value) (u:Url) (h:u.host.six.length=8):UAt (ah pv u) pv u:=by
 have hh:∀ j v,(aW u.host)[j]? = some v->(ah pv u)[3+j]? = some v:=by
  intro j v hj
  have hl:=(be.1 hj).1
  rw[bY]
  unfold bH
  rw[aX,cu (by simp),cG (by simp;omega)]
  simpa using hj
 obtain⟨aC,usr,ed,⟨hk,hn,hf,six⟩,a1,a2,a3,a4,a5,a6,a7,a8,a9⟩:=u
 simp only at h
 obtain⟨a,b,c,d,e,f,g,i,rfl⟩:=eight h
 exact⟨rfl,rfl,rfl,rfl,rfl,rfl,rfl,rfl,rfl,rfl,rfl,rfl,rfl,rfl,hh⟩
structure a3g (pv:Value) (u:Url):Prop where
 usr:∀ x,(ah pv u).setIfInBounds 1 (S x)=ah pv {u with usr:=x}
 ed:∀ x,(ah pv u).setIfInBounds 2 (S x)=ah pv {u with ed:=x}
 kind:∀ k,(ah pv u).setIfInBounds 3 (.int .i64 k)=ah pv {u with host:={u.host with kind:=k}}
 aZ:∀ x,(ah pv u).setIfInBounds 14 (.bool x)=ah pv {u with aZ:=x}
 port:∀ x,(ah pv u).setIfInBounds 15 (.int .i64 x)=ah pv {u with port:=x}
 opq:∀ x,(ah pv u).setIfInBounds 16 (.bool x)=ah pv {u with opq:=x}
 flat:∀ x,(ah pv u).setIfInBounds 17 (S x)=ah pv {u with flat:=x}
 path:∀ v l,(ah pv u).setIfInBounds 18 v=ah v {u with path:=l}
 bP:∀ x,(ah pv u).setIfInBounds 19 (.bool x)=ah pv {u with bP:=x}
 q:∀ x,(ah pv u).setIfInBounds 20 (S x)=ah pv {u with q:=x}
 bS:∀ x,(ah pv u).setIfInBounds 21 (.bool x)=ah pv {u with bS:=x}
 f:∀ x,(ah pv u).setIfInBounds 22 (S x)=ah pv {u with f:=x}
theorem eW (pv:Value) (u:Url) (h:u.host.six.length=8):a3g pv u:=by
 obtain⟨aC,usr,ed,⟨hk,hn,hf,six⟩,a1,a2,a3,a4,a5,a6,a7,a8,a9⟩:=u
 simp only at h
 obtain⟨a,b,c,d,e,f,g,i,rfl⟩:=eight h
 exact⟨fun _=>rfl,fun _=>rfl,fun _=>rfl,fun _=>rfl,fun _=>rfl,fun _=>rfl,fun _=>rfl,fun _ _=>rfl,fun _=>rfl,fun _=>rfl,fun _=>rfl,fun _=>rfl⟩
theorem qQ (pv:Value) (u:Url) (g:gE) (g8:g.six.length=8) (h8:u.host.six.length=8):rF (ah pv u) 3 (aW g)=ah pv {u with host:=g} :=
 pD (aW g) [S u.aC,S u.usr,S u.ed] (aW u.host) [.bool u.aZ,.int .i64 u.port,.bool u.opq,S u.flat,pv,.bool u.bP,S u.q,.bool u.bS,S u.f] (by simp[aW,g8,h8])
section
variable {ops:Array Oper} {rest:List Oper} {o:Oper} {a:Act} {w:World} {Q:Exit->Act->World->Prop}
theorem cN {W:World} (hg:o.guard=none) (x y:Operand) (ho:o.op=.store 30 x y) (pv:Value) (u:Url) (hl:u.host.six.length=8) (h1:pv.oneCell'=true) (hW:W=w.alloc (.cells (ah aD U0) 30)) (hx:a.eval x=.pointer (some ⟨w.heap.size,0,none⟩)) (hy:a.eval y=.agg (ah pv u))
  (k:∀ w',CB w' w.heap.size 30 (ah pv u)->Below w.heap.size w w'->wpList prog ops Q rest (a.put o.dst undef) w'):wpList prog ops Q (o::rest) a W :=
 kf hg _ x y ho (ah pv u) (ah aD U0) (by rw[eL hl];exact dq) (by rw[eL hl];rfl) (all_oneCell_toArray (pP h1)) hW hx hy k
theorem xW (x:Operand) (ho:o.op=.load 30 x) (b:Nat) (pv:Value) (u:Url) (hl:u.host.six.length=8) (hx:a.eval x=.pointer (some ⟨b,0,none⟩)) (i:CB w b 30 (ah pv u)):(execOp a.eval o).run prog w=.ok (.value (.agg (ah pv u))) w :=
 cq _ x ho b (ah pv u) _ underlying30 rfl (by rw[eL hl];exact dq) hx i
theorem dB (hg:Region.wanted o (yielded ops a.tmps)=true) (x:Operand) (ho:o.op=.load 30 x) (b:Nat) (pv:Value) (u:Url) (hl:u.host.six.length=8) (hx:a.eval x=.pointer (some ⟨b,0,none⟩)) (i:CB w b 30 (ah pv u)) (k:wpList prog ops Q rest (a.put o.dst (.agg (ah pv u))) w):wpList prog ops Q (o::rest) a w :=
 wT hg _ (xW x ho b pv u hl hx i) k
end

theorem KI (c:Int):(eF c 10<0)=¬ (48<=c∧c<=57):=by
 have h:=ED c
 unfold eF at *
 simp only at *
 by_cases h1:48<=c∧c<=57
 ·rw[if_pos h1]at *
  simp[h1]
  split <;>omega
 rw[if_neg h1]at *
 simp only[h1,not_false_eq_true,eq_iff_iff,iff_true]
 split <;>(try split) <;>(try split) <;>omega
theorem Wn {l:Bytes} {k:Nat} (h:k<l.length):(l.drop k).all (fun y=>nw (b2 y))=(nw (b2 l[k])&&(l.drop (k+1)).all (fun y=>nw (b2 y))):=by
 rw[ay h,List.all_cons]
theorem Dk (l:Bytes) (w:World) (hl:l.length<=1024000000):Calls prog 69 #[.string (bs l)] w fun e w'=>e=.returned (.bool (tX l))∧w'=w:=by
 obtain⟨s,hs⟩:=ap (bs l)
 have hsz:s.size=l.length:=by rw[hs,aB]
 have hby:∀ k (hk:k<s.size) (hk2:k<l.length),((s[k]'hk).toNat:Int)=b2 l[k]:=fun k hk hk2=>bV hs hk hk2
 have hemp:(s.toList=[]) ↔ l=[]:=by rw[hs,au]
 rw[<-hs]
 clear hs
 obtain⟨N,hN⟩:=ap (s.size)
 have jF:s.size=N:=hN.symm
 have pg:N<=1024000000:=by omega
 by_cases hnil:l=[]
 ·have he:=hemp.mpr hnil
  have he1:s.toList.isEmpty=true:=by rw[he];rfl
  have HR:=h_ (show tX l=false by rw[hnil];rfl)
  clear hemp hby hsz hl hN hnil
  go_enter func69,ntmps69
  go_wp2_with fail
  go_ret
  exact⟨by rw[HR.out];rfl,rfl⟩
 have he:¬ s.toList=[]:=fun h=>hnil (hemp.mp h)
 have he1:s.toList.isEmpty=false:=by simpa using he
 have hpos:0<l.length:=fG.mpr hnil
 have Vg:0<s.size:=by omega
 have hx0:=hby 0 Vg hpos
 have hsn:tX l=(iq (b2 l[0])&&(l.drop 1).all fun y=>nw (b2 y)):=by
  cases l with
  |nil=>cases hpos
  |cons c t=>rfl
 have h0N:(0:Int)<N:=by omega
 rw[jF]at Vg
 obtain⟨X,hX⟩:=ap (b2 l[0])
 rw[<-hX]at hx0 hsn
 obtain⟨R,hR⟩:=ap ((l.drop 1).all fun y=>nw (b2 y))
 rw[<-hR]at hsn
 have OQ:=h_ (fun W=>ld X W)
 have fF:=h_ hby
 have e7:=h_ hsz
 have HR:=h_ hR
 have lC:=h_ hsn
 clear hemp hby hsz hl hN hnil hpos hX hR hsn
 cases hq:iq X with
 |false =>
  rw[hq]at OQ lC
  go_enter func69,ntmps69
  go_wp2_with (first|(go_at_call 105;refine(OQ.out _).mono ?_;rintro e w2 ⟨rfl,hw⟩;subst hw)|fail)
  go_ret
  exact⟨by rw[lC.out];rfl,rfl⟩
 |true =>
  rw[hq]at OQ lC
  go_enter func69,ntmps69
  go_wp2_with (first|(go_at_call 105;refine(OQ.out _).mono ?_;rintro e w2 ⟨rfl,hw⟩;subst hw)|fail)
  obtain⟨w3,hw3⟩:=ap (w2)
  have HW:=h_ hw3
  rw[<-hw3]
  clear hw3
  go_loopw [3] (fun iv wr=>∃ (k:Nat),1<=k∧k<=N∧iv=.int .i64 k∧Hid ((l.drop k).all (fun y=>nw (b2 y))=R)∧w3=wr) (fun i _=>N-(intOf i).toNat)
  case atStart=>exact⟨1,by omega,by omega,by simp,HR.out.symm,rfl⟩
  case round =>
   obtain⟨k,hk1,hk,rfl,hd,rfl⟩:=hrel
   by_cases hlt:k<N
   ·have lV:k<s.size:=by omega
    have hkl:k<l.length:=by have:=e7.out;omega
    have hx:=fF.out k lV hkl
    have hst:=Wn hkl
    rw[hd.out]at hst
    have hr:=iD l[k]
    have hle:=fun W=>ld (b2 l[k]) W
    have hda:=fun W=>cY (b2 l[k]) 10 W hr (by omega)
    have hdg:=KI (b2 l[k])
    obtain⟨Y,hY⟩:=ap (b2 l[k])
    rw[<-hY]at hx hst hle hda hr hdg
    clear hY hd
    obtain⟨D,hD⟩:=ap (eF Y 10)
    rw[<-hD]at hda hdg
    clear hD
    have r8:=h_ hda;clear hda
    have gJ:=h_ hle;clear hle
    obtain⟨T,hT⟩:=ap ((l.drop (k+1)).all fun y=>nw (b2 y))
    rw[<-hT]at hst
    have OW:=h_ hT;clear hT
    unfold nw at hst
    cases hq2:iq Y with
    |true =>
     rw[hq2]at hst gJ
     have HST:=h_ (show R=T by rw[hst];simp)
     clear hst hdg
     go_wp2_with (first|(go_at_call 105;refine(gJ.out _).mono ?_;rintro e w4 ⟨rfl,hw⟩;subst hw)|fail)
     go_roundw
     case rel=>exact⟨k+1,by omega,by omega,by simp,(OW.out.symm.trans HST.out.symm),by trivial⟩
     case measure=>simp[intOf];omega
    |false =>
     rw[hq2]at hst gJ
     by_cases hdig:48<=Y∧Y<=57
     ·have hD:¬ D<0:=by rw[hdg];simp[hdig]
      have HST:=h_ (show R=T by rw[hst];simp[hdig])
      clear hst hdg hdig
      go_wp2_with (first
       |(go_at_call 105;refine(gJ.out _).mono ?_;rintro e w4 ⟨rfl,hw⟩;subst hw)
       |(go_at_call 62;refine(r8.out _).mono ?_;rintro e w5 ⟨rfl,rfl⟩)
       |fail)
      go_roundw
      case rel=>exact⟨k+1,by omega,by omega,by simp,(OW.out.symm.trans HST.out.symm),by trivial⟩
      case measure=>simp[intOf];omega
     have hD:D<0:=by rw[hdg];exact hdig
     by_cases h3:Y=43∨Y=45∨Y=46
     ·have HST:=h_ (show R=T by rw[hst];rcases h3 with h|h|h <;>simp[h])
      clear hst hdg hdig
      rcases h3 with rfl|rfl|rfl
      all_goals
       go_wp2_with (first
        |(go_at_call 105;refine(gJ.out _).mono ?_;rintro e w4 ⟨rfl,hw⟩;subst hw)
        |(go_at_call 62;refine(r8.out _).mono ?_;rintro e w5 ⟨rfl,rfl⟩)
        |fail)
       go_roundw
       case rel=>exact⟨k+1,by omega,by omega,by simp,(OW.out.symm.trans HST.out.symm),by trivial⟩
       case measure=>simp[intOf];omega
     have HST:=h_ (show R=false by rw[hst];simp[hdig];intro h;exact absurd h h3)
     have e1:(Y != 43)=true:=by simpa using fun h=>h3 (.inl h)
     have e2:(Y != 45)=true:=by simpa using fun h=>h3 (.inr (.inl h))
     have e3:(Y != 46)=true:=by simpa using fun h=>h3 (.inr (.inr h))
     clear hst hdg hdig h3
     go_wp2_with (first
      |(go_at_call 105;refine(gJ.out _).mono ?_;rintro e w4 ⟨rfl,hw⟩;subst hw)
      |(go_at_call 62;refine(r8.out _).mono ?_;rintro e w5 ⟨rfl,rfl⟩)
      |fail)
     go_ret
     exact⟨by rw[lC.out,HST.out];rfl,HW.out⟩
   obtain rfl:k=N:=by omega
   have hdr:l.drop k=[]:=bf (by have:=e7.out;omega)
   have hd1:=hd.out
   rw[hdr]at hd1
   have HST:=h_ (show true=R from hd1);clear hd1 hd
   go_wp2_with fail
   go_ret
   exact⟨by rw[lC.out,<-HST.out];rfl,HW.out⟩

theorem BA (c:UInt8) (n:Nat) (h:n<256):(c==UInt8.ofNat n)=decide (b2 c=n):=by
 have e:b2 (UInt8.ofNat n)=n:=by
  unfold b2
  rw[eN]
  omega
 rw[cg,beq_iff_eq,decide_eq_true_eq]
 exact⟨fun h=>by rw[h,e],fun h=>dz (h.trans e.symm)⟩
theorem vv (a b:UInt8):dp [a,b]=(iq (b2 a)&&(decide (b2 b=58)||decide (b2 b=124))):=by
 show(iq (b2 a)&&(b==58||b==124))=_
 rw[show(b==58)=decide (b2 b=58)from BA b 58 (by decide),show(b==124)=decide (b2 b=124)from BA b 124 (by decide)]
theorem MN (a b:UInt8):iF [a,b]=(iq (b2 a)&&decide (b2 b=58)):=by
 show(iq (b2 a)&&b==58)=_
 rw[show(b==58)=decide (b2 b=58)from BA b 58 (by decide)]
theorem DR {l:Bytes} (h:l.length=2):∃ a b,l=[a,b]:=by
 match l,h with
 | [a,b],_=>exact⟨a,b,rfl⟩
theorem oY {l:Bytes} (h:l.length≠2):dp l=false∧iF l=false:=by
 match l,h with
 | [],_=>exact⟨rfl,rfl⟩
 | [_],_=>exact⟨rfl,rfl⟩
 | [_,_],h=>exact absurd rfl h
 |_::_::_::_,_=>exact⟨rfl,rfl⟩
theorem mU (l:Bytes) (w:World) (hl:l.length<=1024000000):Calls prog 159 #[.string (bs l)] w fun e w'=>e=.returned (.bool (dp l))∧w'=w:=by
 obtain⟨s,hs⟩:=ap (bs l)
 have hsz:s.size=l.length:=by rw[hs,aB]
 have hby:∀ k (hk:k<s.size) (hk2:k<l.length),((s[k]'hk).toNat:Int)=b2 l[k]:=fun k hk hk2=>bV hs hk hk2
 rw[<-hs]
 clear hs
 by_cases h2:l.length=2
 ·obtain⟨a,b,rfl⟩:=DR h2
  have jF:s.size=2:=hsz
  have h0:0<s.size:=by omega
  have h1:1<s.size:=by omega
  have hx0:((s[0]'h0).toNat:Int)=b2 a:=hby 0 h0 (nH _)
  have hx1:((s[1]'h1).toNat:Int)=b2 b:=hby 1 h1 (bB 1)
  have hd:=vv a b
  have gJ:=h_ (fun W=>ld (b2 a) W)
  generalize b2 a=X at *
  generalize b2 b=Y at *
  obtain⟨R,hR⟩:=ap (dp [a,b])
  rw[<-hR]at hd ⊢
  clear hby hsz h2 hR hl
  cases hq:iq X with
  |false =>
   rw[hq]at gJ hd
   have HD:=h_ hd;clear hd
   go_enter func159,ntmps159
   go_wp2_with (first|(go_at_call 105;refine(gJ.out _).mono ?_;rintro e w2 ⟨rfl,hw⟩;subst hw)|fail)
   go_ret
   exact⟨by rw[HD.out];rfl,rfl⟩
  |true =>
   rw[hq]at gJ hd
   by_cases Cq:Y=58
   ·have HD:=h_ (show R=true by rw[hd];simp[Cq]);clear hd
    subst Cq
    go_enter func159,ntmps159
    go_wp2_with (first|(go_at_call 105;refine(gJ.out _).mono ?_;rintro e w2 ⟨rfl,hw⟩;subst hw)|fail)
    go_ret
    exact⟨by rw[HD.out];rfl,rfl⟩
   have q58:(Y==58)=false:=by simpa using Cq
   by_cases PQ:Y=124
   ·have HD:=h_ (show R=true by rw[hd];simp[PQ]);clear hd
    subst PQ
    go_enter func159,ntmps159
    go_wp2_with (first|(go_at_call 105;refine(gJ.out _).mono ?_;rintro e w2 ⟨rfl,hw⟩;subst hw)|fail)
    go_ret
    exact⟨by rw[HD.out];rfl,rfl⟩
   have a9m:(Y==124)=false:=by simpa using PQ
   have HD:=h_ (show R=false by rw[hd];simp[Cq,PQ]);clear hd
   go_enter func159,ntmps159
   go_wp2_with (first|(go_at_call 105;refine(gJ.out _).mono ?_;rintro e w2 ⟨rfl,hw⟩;subst hw)|fail)
   go_ret
   exact⟨by rw[HD.out];rfl,rfl⟩
 have HD:=h_ (oY h2).1
 obtain⟨N,hN⟩:=ap (s.size)
 have jF:s.size=N:=hN.symm
 have hn:((N:Int)==2)=false:=by
  have:(N:Int)≠2:=by omega
  simpa using this
 clear hby h2 hsz hl hN
 go_enter func159,ntmps159
 go_wp2_with fail
 go_ret
 exact⟨by rw[HD.out];rfl,rfl⟩
theorem ow (l:Bytes) (w:World) (hl:l.length<=1024000000):Calls prog 127 #[.string (bs l)] w fun e w'=>e=.returned (.bool (iF l))∧w'=w:=by
 have hdr:=fun W=>mU l W hl
 obtain⟨s,hs⟩:=ap (bs l)
 have hsz:s.size=l.length:=by rw[hs,aB]
 have hby:∀ k (hk:k<s.size) (hk2:k<l.length),((s[k]'hk).toNat:Int)=b2 l[k]:=fun k hk hk2=>bV hs hk hk2
 rw[<-hs]at hdr ⊢
 clear hs
 have HDR:=h_ hdr;clear hdr
 by_cases h2:l.length=2
 ·obtain⟨a,b,rfl⟩:=DR h2
  have jF:s.size=2:=hsz
  have h1:1<s.size:=by omega
  have hx1:((s[1]'h1).toNat:Int)=b2 b:=hby 1 h1 (bB 1)
  have hd:=vv a b
  have hn:=MN a b
  rw[hd]at HDR
  generalize b2 a=X at *
  generalize b2 b=Y at *
  obtain⟨R,hR⟩:=ap (iF [a,b])
  rw[<-hR]at hn ⊢
  clear hby hsz h2 hR hl hd
  generalize iq X=q at *
  by_cases Cq:Y=58
  ·subst Cq
   have HN:=h_ (show R=q by rw[hn];simp);clear hn
   cases q
   all_goals
    go_enter func127,ntmps127
    go_wp2_with (first|(go_at_call 159;refine(HDR.out _).mono ?_;rintro e w2 ⟨rfl,hw⟩;subst hw)|fail)
    go_ret
    exact⟨by rw[HN.out];rfl,rfl⟩
  have q58:(Y==58)=false:=by simpa using Cq
  have HN:=h_ (show R=false by rw[hn];simp[Cq]);clear hn
  obtain⟨r,hr⟩:=ap ((q&&(decide (Y=58)||decide (Y=124))))
  rw[<-hr]at HDR
  clear hr Cq
  cases r
  all_goals
   go_enter func127,ntmps127
   go_wp2_with (first|(go_at_call 159;refine(HDR.out _).mono ?_;rintro e w2 ⟨rfl,hw⟩;subst hw)|fail)
   go_ret
   exact⟨by rw[HN.out];rfl,rfl⟩
 rw[(oY h2).1]at HDR
 have HN:=h_ (oY h2).2
 clear hby h2 hsz hl
 go_enter func127,ntmps127
 go_wp2_with (first|(go_at_call 159;refine(HDR.out _).mono ?_;rintro e w2 ⟨rfl,hw⟩;subst hw)|fail)
 go_ret
 exact⟨by rw[HN.out];rfl,rfl⟩

theorem wM {l:Bytes} (h:l.length<2∨dp (l.take 2)=false):eK l=false:=by
 match l,h with
 | [],_=>rfl
 | [_],_=>rfl
 | [a,b],h =>
  rcases h with h|h
  ·simp at h
  exact h
 |a::b::c::r,h =>
  rcases h with h|h
  ·simp at h;omega
  show(dp [a,b]&&_)=false
  rw[show dp [a,b]=false from h];rfl
theorem DJ {l:Bytes} (h:l.length=2) (hd:dp (l.take 2)=true):eK l=true:=by
 obtain⟨a,b,rfl⟩:=DR h
 exact hd
theorem AB {l:Bytes} (h:2<l.length) (hd:dp (l.take 2)=true):eK l=gK [47,92,63,35] (b2 (l[2]'h)):=by
 match l,h,hd with
 |a::b::c::r,_,hd =>
  show(dp [a,b]&&(c==47||c==92||c==63||c==35))=gK [47,92,63,35] (b2 c)
  rw[show dp [a,b]=true from hd,A7]
  have key:∀ k:Fin 256,(UInt8.ofNat k.val==47||UInt8.ofNat k.val==92||UInt8.ofNat k.val==63||UInt8.ofNat k.val==35)=gK [47,92,63,35] (b2 (UInt8.ofNat k.val)):=by decide +kernel
  have:=key ⟨c.toNat,c.toNat_lt⟩
  simpa using this
theorem ul (l:Bytes) (w:World) (hl:l.length<=1024000000):Calls prog 128 #[.string (bs l)] w fun e w'=>e=.returned (.bool (eK l))∧w'=w:=by
 have hdr:=fun W=>mU (l.take 2) W (by rw[aA];omega)
 obtain⟨s,hs⟩:=ap (bs l)
 have hsz:s.size=l.length:=by rw[hs,aB]
 have hby:∀ k (hk:k<s.size) (hk2:k<l.length),((s[k]'hk).toNat:Int)=b2 l[k]:=fun k hk hk2=>bV hs hk hk2
 have hex:s.extract 0 2=bs (l.take 2):=by rw[hs];exact ql l 2
 rw[<-hs]
 clear hs
 obtain⟨N,hN⟩:=ap (s.size)
 have jF:s.size=N:=hN.symm
 have mW:N=l.length:=by omega
 obtain⟨t,ht⟩:=ap (bs (l.take 2))
 rw[<-ht]at hdr hex
 by_cases h2:N<2
 ·have HR:=h_ (wM (l:=l) (.inl (by omega)))
  clear hby hex hdr ht hN hsz hl mW
  go_enter func128,ntmps128
  go_wp2_with fail
  go_ret
  exact⟨by rw[HR.out];rfl,rfl⟩
 have h2i:(2:Int)<=N:=by omega
 have HDR:=h_ hdr;clear hdr
 cases hd:dp (l.take 2)with
 |false =>
  rw[hd]at HDR
  have HR:=h_ (wM (l:=l) (.inr hd))
  clear hby ht hN hsz hl mW hd
  go_enter func128,ntmps128
  go_wp2_with (first|(go_at_call 159;refine(HDR.out _).mono ?_;rintro e w2 ⟨rfl,hw⟩;subst hw)|fail)
  go_ret
  exact⟨by rw[HR.out];rfl,rfl⟩
 |true =>
  rw[hd]at HDR
  by_cases hq:N=2
  ·have HR:=h_ (DJ (l:=l) (by omega) hd)
   have hqb:((N:Int)==2)=true:=by rw[hq];rfl
   clear hby ht hN hsz hl mW hd
   subst hq
   go_enter func128,ntmps128
   go_wp2_with (first|(go_at_call 159;refine(HDR.out _).mono ?_;rintro e w2 ⟨rfl,hw⟩;subst hw)|fail)
   go_ret
   exact⟨by rw[HR.out];rfl,rfl⟩
  have h3:2<l.length:=by omega
  have h3s:2<s.size:=by omega
  have hx:=hby 2 h3s h3
  have hr:=AB h3 hd
  obtain⟨x,kL⟩:=ap (l[2])
  rw[<-kL]at hx hr
  have hib:=fun W=>Any.strings_IndexByte laysIB ⟨#[47,92,63,35]⟩ (b2 x) W
  rw[show(⟨#[47,92,63,35]⟩:ByteArray).data.toList=[47,92,63,35]from rfl,show(b2 x).toNat.toUInt8=x by simp[b2]]at hib
  have Cs:∀ W,Calls prog 81 #[.string ⟨#[47,92,63,35]⟩,.int .u8 (b2 x)] W fun e w'=>e=.returned (.int .i64 (Lib.indexByte [47,92,63,35] x))∧w'=W:=hib
  have hi:=pp [47,92,63,35] x
  generalize Lib.indexByte [47,92,63,35] x=I at Cs hi
  rw[<-hr]at hi
  generalize eK l=R at hi ⊢
  generalize b2 x=X at *
  have IH:=h_ Cs
  have hqb:((N:Int)==2)=false:=by
   have:(N:Int)≠2:=by omega
   simpa using this
  have h3i:(2:Int)<N:=by omega
  have h3n:2<N:=by omega
  clear hby ht hN hsz hl mW hd hib Cs hr kL
  cases R with
  |true =>
   have hI:0<=I:=hi.mpr rfl
   clear hi
   go_enter func128,ntmps128
   go_wp2_with (first
    |(go_at_call 159;refine(HDR.out _).mono ?_;rintro e w2 ⟨rfl,hw⟩;subst hw)
    |(go_at_call 81;refine(IH.out _).mono ?_;rintro e w3 ⟨rfl,hw⟩;subst hw)
    |fail)
   go_ret
   exact⟨dK (by simp),rfl⟩
  |false =>
   have hI:¬ 0<=I:=fun h=>by have:=hi.mp h;cases this
   clear hi
   go_enter func128,ntmps128
   go_wp2_with (first
    |(go_at_call 159;refine(HDR.out _).mono ?_;rintro e w2 ⟨rfl,hw⟩;subst hw)
    |(go_at_call 81;refine(IH.out _).mono ?_;rintro e w3 ⟨rfl,hw⟩;subst hw)
    |fail)
   go_ret
   exact⟨dK (by simp;omega),rfl⟩
theorem Qr:∀ k:Fin 256,(dc (UInt8.ofNat k.val)=37 ↔ UInt8.ofNat k.val=37)∧(dc (UInt8.ofNat k.val)=50 ↔ UInt8.ofNat k.val=50)∧(dc (UInt8.ofNat k.val)=101 ↔ (UInt8.ofNat k.val=101∨UInt8.ofNat k.val=69)):=by decide +kernel
theorem MH (c:UInt8):(dc c=37 ↔ c=37)∧(dc c=50 ↔ c=50)∧(dc c=101 ↔ (c=101∨c=69)):=by
 have:=Qr ⟨c.toNat,c.toNat_lt⟩
 simpa using this
theorem Ki (l:Bytes):gi l=if l.head? = some 46 then some (l.drop 1)else if 3<=l.length∧(l.take 3).map dc=[37,50,101]then some (l.drop 3)else none:=by
 match l with
 | []=>rfl
 |c::t =>
  by_cases h46:c=46
  ·subst h46
   rw[By,if_pos (by rfl)]
   rfl
  rw[if_neg (by simpa using h46)]
  match t with
  | [] =>
   rw[if_neg (by simp)]
   unfold gi
   dsimp only
   rw[if_neg h46]
   split
   ·next h=>cases h
   rfl
  | [x] =>
   rw[if_neg (by simp)]
   unfold gi
   dsimp only
   rw[if_neg h46]
   split
   ·next h=>cases h
   rfl
  |x::y::r =>
   have e:((c::x::y::r).take 3).map dc=[dc c,dc x,dc y]:=rfl
   rw[e]
   obtain⟨k1,_,_⟩:=MH c
   obtain⟨_,k2,_⟩:=MH x
   obtain⟨_,_,k3⟩:=MH y
   by_cases h37:c=37
   ·by_cases h50:x=50
    ·subst h37;subst h50
     rw[mQ]
     by_cases hy:y=101∨y=69
     ·rw[if_pos hy,if_pos ⟨by simp,by rw[k1.mpr rfl,k2.mpr rfl,k3.mpr hy]⟩]
      rfl
     rw[if_neg hy,if_neg (fun h=>hy (k3.mp (by injection h.2 with _ h;injection h with _ h;injection h)))]
    subst h37
    rw[l7 h50,if_neg (fun h=>h50 (k2.mp (by injection h.2 with _ h;injection h)))]
   rw[iV h46 h37,if_neg (fun h=>h37 (k1.mp (by injection h.2)))]
theorem Et (l:Bytes) (w:World) (hl:l.length<=1024000000):Calls prog 188 #[.string (bs l)] w fun e w'=>e=.returned (.tuple #[S ((gi l).getD []),.bool (gi l).isSome])∧Below w.heap.size w w':=by
 have Cr:=fun W=>n7 l [46] W
 rw[show bs [46]=⟨#[46]⟩from rfl]at Cr
 have ZK:Lib.hasPrefix l [46]=decide (l.head? = some 46):=by
  cases l with
  |nil=>rfl
  |cons x r =>
   show((46==x)&&true)=_
   rw[lH,cg]
   simp only[beq_iff_eq,mM,ko,decide_eq_true_eq]
   exact eq_comm
 rw[ZK]at Cr
 have hlow:=fun W=>qy (l.take 3) W (by unfold maxLen;rw[aA];omega)
 have hbi:=Ki l
 obtain⟨R,hR⟩:=ap (gi l)
 rw[<-hR]at hbi ⊢
 obtain⟨s,hs⟩:=ap (bs l)
 have hsz:s.size=l.length:=by rw[hs,aB]
 have Zo:s.extract 0 3=bs (l.take 3):=by rw[hs];exact ql l 3
 have hd1:s.extract 1 s.size=bs (l.drop 1):=by rw[hs];exact gn l 1 _ (aB l)
 have hd3:s.extract 3 s.size=bs (l.drop 3):=by rw[hs];exact gn l 3 _ (aB l)
 rw[<-hs]at Cr ⊢
 clear hs ZK hR
 obtain⟨N,hN⟩:=ap (s.size)
 have jF:s.size=N:=hN.symm
 rw[jF]at hd1 hd3
 have mW:N=l.length:=by omega
 obtain⟨t,ht⟩:=ap (bs (l.take 3))
 rw[<-ht]at Zo hlow
 have hne:l.head? = some 46->1<=N:=fun h=>by
  cases l with
  |nil=>cases h
  |cons c r=>rw[mW];simp
 rw[<-mW]at hbi
 generalize (l.take 3).map dc=m at hbi hlow
 generalize l.drop 1=d1 at hbi hd1
 generalize l.drop 3=d3 at hbi hd3
 obtain⟨q,hq⟩:∃ q:Prop,q=(l.head? = some 46):=⟨_,rfl⟩
 rw[<-hq]at hne
 have IG:=h_ Cr
 have OS:=h_ (show ∀W,Calls prog 70 #[.string t] W fun e w'=>e=.returned (S m)∧Below W.heap.size W w' from hlow)
 by_cases h46:l.head? = some 46
 ·rw[if_pos h46]at hbi
  rw[decide_eq_true h46]at IG
  have hN1:1<=N:=hne (hq▸h46)
  have PR:(1:Int)<=N:=by omega
  have HR:=h_ hbi
  clear Cr hbi hlow ht hN hsz hl mW hq hne h46 Zo hd3
  go_enter func188,ntmps188
  go_wp2_with (first|(go_at_call 57;refine(IG.out _).mono ?_;rintro e w2 ⟨rfl,hw⟩;subst hw)|fail)
  go_ret2
  exact⟨by rw[HR.out];rfl,aG _⟩
 rw[if_neg h46]at hbi
 rw[decide_eq_false h46]at IG
 clear Cr hlow ht hN hsz hl mW hq hne h46 hd1
 by_cases h3:3<=N
 ·have h3i:(3:Int)<=N:=by omega
  have he:=qG m [37,50,101]
  by_cases hm:m=[37,50,101]
  ·rw[if_pos ⟨h3,hm⟩]at hbi
   rw[decide_eq_true hm]at he
   have HR:=h_ hbi
   clear hbi hm
   rw[au,au]at he
   have he2:((bs m).toList == [37,50,101])=true:=by rw[au];exact he
   obtain⟨z,hz⟩:=ap (bs m)
   rw[<-hz]at he2
   replace OS:=h_ (show ∀W,Calls prog 70 #[.string t] W fun e w'=>e=.returned (.string z)∧Below W.heap.size W w' from by rw[hz];exact OS.out)
   clear hz he
   go_enter func188,ntmps188
   go_wp2_with (first
    |(go_at_call 57;refine(IG.out _).mono ?_;rintro e w2 ⟨rfl,hw⟩;subst hw)
    |(go_at_call 70;refine(OS.out _).mono ?_;rintro e w3 ⟨rfl,hb⟩;have HB:=h_ hb;clear hb)
    |fail)
   go_ret2
   exact⟨by rw[HR.out];rfl,HB.out⟩
  rw[if_neg (fun h=>hm h.2)]at hbi
  rw[decide_eq_false hm]at he
  have HR:=h_ hbi
  clear hbi hm
  rw[au,au]at he
  have he2:((bs m).toList == [37,50,101])=false:=by rw[au];exact he
  obtain⟨z,hz⟩:=ap (bs m)
  rw[<-hz]at he2
  replace OS:=h_ (show ∀W,Calls prog 70 #[.string t] W fun e w'=>e=.returned (.string z)∧Below W.heap.size W w' from by rw[hz];exact OS.out)
  clear hz he
  go_enter func188,ntmps188
  go_wp2_with (first
   |(go_at_call 57;refine(IG.out _).mono ?_;rintro e w2 ⟨rfl,hw⟩;subst hw)
   |(go_at_call 70;refine(OS.out _).mono ?_;rintro e w3 ⟨rfl,hb⟩;have HB:=h_ hb;clear hb)
   |fail)
  go_ret2
  exact⟨by rw[HR.out];rfl,HB.out⟩
 rw[if_neg (fun h=>h3 h.1)]at hbi
 have HR:=h_ hbi
 clear hbi
 go_enter func188,ntmps188
 go_wp2_with (first
  |(go_at_call 57;refine(IG.out _).mono ?_;rintro e w2 ⟨rfl,hw⟩;subst hw)
  |fail)
 go_ret2
 exact⟨by rw[HR.out];rfl,aG _⟩
theorem EE (l:Bytes) (w:World) (hl:l.length<=1024000000):Calls prog 164 #[.string (bs l)] w fun e w'=>e=.returned (.bool (jr l))∧Below w.heap.size w w':=by
 have hb:=fun W=>Et l W hl
 obtain⟨R,hR⟩:=ap (jr l)
 rw[<-hR]
 unfold jr at hR
 generalize bs l=s at *
 generalize gi l=b at *
 cases b with
 |none =>
  have HB:=h_ (show ∀W,Calls prog 188 #[.string s] W fun e w'=>e=.returned (.tuple #[.string ⟨#[]⟩,.bool false])∧Below W.heap.size W w' from hb)
  have HR:=h_ (show R=false from hR)
  clear hb hR
  go_enter func164,ntmps164
  go_wp2_with (first|(go_at_call 188;refine(HB.out _).mono ?_;rintro e w2 ⟨rfl,hb⟩;have HW:=h_ hb;clear hb)|fail)
  go_ret
  exact⟨by rw[HR.out];rfl,HW.out⟩
 |some r =>
  obtain⟨z,hz⟩:=ap (bs r)
  have HB:=h_ (show ∀W,Calls prog 188 #[.string s] W fun e w'=>e=.returned (.tuple #[.string z,.bool true])∧Below W.heap.size W w' from by rw[hz];exact hb)
  have hze:z.toList=[] ↔ r=[]:=by rw[hz,au]
  have hRr:R=decide (r=[]):=by
   rw[hR,cg,decide_eq_true_eq]
   simp
  clear hb hR hz
  by_cases hn:r=[]
  ·have he:=hze.mpr hn
   have he1:z.toList.isEmpty=true:=by rw[he];rfl
   have HR:=h_ (show R=true by rw[hRr,decide_eq_true hn])
   clear hze hRr hn
   go_enter func164,ntmps164
   go_wp2_with (first|(go_at_call 188;refine(HB.out _).mono ?_;rintro e w2 ⟨rfl,hb⟩;have HW:=h_ hb;clear hb)|fail)
   go_ret
   exact⟨by rw[HR.out];rfl,HW.out⟩
  have he:¬ z.toList=[]:=fun h=>hn (hze.mp h)
  have he1:z.toList.isEmpty=false:=by simpa using he
  have HR:=h_ (show R=false by rw[hRr,decide_eq_false hn])
  clear hze hRr hn
  go_enter func164,ntmps164
  go_wp2_with (first|(go_at_call 188;refine(HB.out _).mono ?_;rintro e w2 ⟨rfl,hb⟩;have HW:=h_ hb;clear hb)|fail)
  go_ret
  exact⟨by rw[HR.out];rfl,HW.out⟩
theorem Pi {l r:Bytes} (h:gi l=some r):r.length<=l.length:=by
 rw[Ki]at h
 split at h
 ·injection h with h
  rw[<-h,ai];omega
 split at h
 ·injection h with h
  rw[<-h,ai];omega
 cases h
theorem KP (l:Bytes) (w:World) (hl:l.length<=1024000000):Calls prog 162 #[.string (bs l)] w fun e w'=>e=.returned (.bool (ip l))∧Below w.heap.size w w':=by
 have hb:=fun W=>Et l W hl
 have hln:=fun r (h:gi l=some r)=>Pi h
 obtain⟨R,hR⟩:=ap (ip l)
 rw[<-hR]
 unfold ip at hR
 generalize bs l=s at *
 generalize gi l=b at *
 cases b with
 |none =>
  have HB:=h_ (show ∀W,Calls prog 188 #[.string s] W fun e w'=>e=.returned (.tuple #[.string ⟨#[]⟩,.bool false])∧Below W.heap.size W w' from hb)
  have HR:=h_ (show R=false from hR)
  clear hb hR hln
  go_enter func162,ntmps162
  go_wp2_with (first|(go_at_call 188;refine(HB.out _).mono ?_;rintro e w2 ⟨rfl,hb⟩;have HW:=h_ hb;clear hb)|fail)
  go_ret
  exact⟨by rw[HR.out];rfl,HW.out⟩
 |some r =>
  have hdo:=fun W=>EE r W (by have:=hln r rfl;omega)
  obtain⟨z,hz⟩:=ap (bs r)
  have HB:=h_ (show ∀W,Calls prog 188 #[.string s] W fun e w'=>e=.returned (.tuple #[.string z,.bool true])∧Below W.heap.size W w' from by rw[hz];exact hb)
  rw[<-hz]at hdo
  have HD:=h_ hdo
  have HR:=h_ (show R=jr r from hR)
  clear hb hR hz hdo hln
  generalize jr r=q at HD HR
  go_enter func162,ntmps162
  go_wp2_with (first
   |(go_at_call 188;refine(HB.out _).mono ?_;rintro e w2 ⟨rfl,hb⟩;have HW:=h_ hb;clear hb)
   |(go_at_call 164;refine(HD.out _).mono ?_;rintro e w3 ⟨rfl,hb⟩;have HW3:=h_ (fJ HW.out hb);clear hb)
   |fail)
  go_ret
  exact⟨by rw[HR.out];rfl,HW3.out⟩

theorem a0A {sp:Bool} {l:Bytes} {k:Nat} (h:k<l.length):r4 sp (l.drop k)=if kE sp l[k]=true then 1+r4 sp (l.drop (k+1))else 0:=by
 unfold r4
 rw[ay h]
 cases hp:kE sp l[k]with
 |true=>rw[bo hp,if_pos rfl,ag];omega
 |false=>rw[bd (by simp[hp]),if_neg (by simp)];rfl
theorem yn (sp:Bool) (l:Bytes):r4 sp l<=l.length:=(List.takeWhile_sublist _).length_le
theorem jZ (aC l:Bytes) (w:World) (hl:l.length<=1024000000):Calls prog 125 #[.string (bs aC),.string (bs l)] w fun e w'=>e=.returned (.int .i64 (r4 (ep aC) l))∧w'=w:=by
 have hsp:=fun W=>fq aC W
 generalize ep aC=sp at *
 generalize bs aC=c at *
 have gF:=h_ hsp;clear hsp
 obtain⟨R,hR⟩:=ap (r4 sp l)
 rw[<-hR]
 have HR:=h_ hR;clear hR
 obtain⟨s,hs⟩:=ap (bs l)
 have hsz:s.size=l.length:=by rw[hs,aB]
 have hby:∀ k (hk:k<s.size) (hk2:k<l.length),((s[k]'hk).toNat:Int)=b2 l[k]:=fun k hk hk2=>bV hs hk hk2
 rw[<-hs]
 clear hs
 obtain⟨N,hN⟩:=ap (s.size)
 have jF:s.size=N:=hN.symm
 have pg:N<=1024000000:=by omega
 have fF:=h_ hby;clear hby
 have e7:=h_ hsz;clear hsz hl hN
 go_enter func125,ntmps125
 go_wp2_with (first|(go_at_call 96;refine(gF.out _).mono ?_;rintro e w2 ⟨rfl,hw⟩;subst hw)|fail)
 obtain⟨w3,hw3⟩:=ap (w2)
 have HW:=h_ hw3
 rw[<-hw3]
 clear hw3
 go_loopw [6] (fun iv wr=>∃ k:Nat,k<=N∧iv=.int .i64 k∧Hid (k+r4 sp (l.drop k)=R)∧w3=wr) (fun i _=>N-(intOf i).toNat)
 case atStart=>exact⟨0,by omega,by simp,(by rw[HR.out];show 0+r4 sp (List.drop 0 l)=_;simp),rfl⟩
 case round =>
  obtain⟨k,hk,rfl,hd,rfl⟩:=hrel
  by_cases hlt:k<N
  ·have lV:k<s.size:=by omega
   have hkl:k<l.length:=by have:=e7.out;omega
   have hx:=fF.out k lV hkl
   have hst:=a0A (sp:=sp) hkl
   rw[slP_b]at hst
   have hd1:=hd.out
   obtain⟨T,hT⟩:=ap (r4 sp (l.drop (k+1)))
   rw[<-hT]at hst
   have HT:=h_ hT;clear hT
   obtain⟨X,hX⟩:=ap (b2 l[k])
   rw[<-hX]at hx hst
   clear hX hd
   by_cases h47:X=47
   ·subst h47
    have HN:=h_ (show k+1+T=R by rw[if_pos (by simp)]at hst;omega)
    clear hst hd1
    go_wp2_with fail
    go_roundw
    case rel=>exact⟨k+1,by omega,by simp,(by rw[<-HT.out];exact HN.out),by trivial⟩
    case measure=>simp[intOf];omega
   have q47:(X==47)=false:=by simpa using h47
   cases sp with
   |false =>
    have HN:=h_ (show k=R by rw[if_neg (by simp[h47])]at hst;omega)
    clear hst hd1
    go_wp2_with fail
    go_ret
    exact⟨by rw[<-HN.out];rfl,HW.out⟩
   |true =>
    by_cases Ly:X=92
    ·subst Ly
     have HN:=h_ (show k+1+T=R by rw[if_pos (by simp)]at hst;omega)
     clear hst hd1
     go_wp2_with fail
     go_roundw
     case rel=>exact⟨k+1,by omega,by simp,(by rw[<-HT.out];exact HN.out),by trivial⟩
     case measure=>simp[intOf];omega
    have q92:(X==92)=false:=by simpa using Ly
    have HN:=h_ (show k=R by rw[if_neg (by simp[h47,Ly])]at hst;omega)
    clear hst hd1
    go_wp2_with fail
    go_ret
    exact⟨by rw[<-HN.out];rfl,HW.out⟩
  obtain rfl:k=N:=by omega
  have hdr:l.drop k=[]:=bf (by have:=e7.out;omega)
  have hd1:=hd.out
  rw[hdr]at hd1
  have HN:=h_ (show k=R from hd1);clear hd1 hd
  go_wp2_with fail
  go_ret
  exact⟨by rw[<-HN.out];rfl,HW.out⟩
theorem nR (aC l:Bytes) (w:World) (hl:l.length<=1024000000):Calls prog 100 #[.string (bs aC),.string (bs l)] w fun e w'=>e=.returned (S (l.drop (r4 (ep aC) l)))∧w'=w:=by
 have hsl:=fun W=>jZ aC l W hl
 have hle:=yn (ep aC) l
 generalize r4 (ep aC) l=k at *
 generalize bs aC=c at *
 obtain⟨s,hs⟩:=ap (bs l)
 have hsz:s.size=l.length:=by rw[hs,aB]
 have hex:s.extract k s.size=bs (l.drop k):=by rw[hs];exact gn l k _ (aB l)
 rw[<-hs]at hsl ⊢
 clear hs
 obtain⟨N,hN⟩:=ap (s.size)
 have jF:s.size=N:=hN.symm
 rw[jF]at hex
 obtain⟨t,ht⟩:=ap (bs (l.drop k))
 rw[<-ht]at hex
 have HT:=h_ ht
 have HSL:=h_ hsl
 have hki:(k:Int)<=N:=by omega
 have hkn:k<=N:=by omega
 clear hsl hsz hl hle hN ht
 go_enter func100,ntmps100
 go_wp2_with (first|(go_at_call 125;refine(HSL.out _).mono ?_;rintro e w2 ⟨rfl,hw⟩;subst hw)|fail)
 go_ret
 exact⟨by rw[HT.out];rfl,rfl⟩
theorem Nz {sp:Bool} {p:Bytes} (h:∀ y∈p,kE sp y=false) {c:UInt8} (hc:kE sp c=true) (t:Bytes):fI sp (p++c::t)=p::fI sp t:=by
 induction p with
 |nil=>rw[bW,fI,if_pos hc]
 |cons x r ih =>
  rw[bI,fI,if_neg (by rw[h x (by simp)];simp),ih (fun y hy=>h y (by simp[hy]))]
theorem Av (sp:Bool):∀ l:Bytes,(fI sp l).length<=l.length+1
 | []=>by simp[fI]
 |c::t=>by
  have:=Av sp t
  rw[fI]
  split
  ·simp;omega
  split
  ·simp
  next h=>rw[h]at this;simp at this ⊢;omega
theorem Fb {l:Bytes} {f k:Nat} {y:UInt8} (h:y∈(l.drop f).take (k-f)):∃ j,∃hj:j<l.length,f<=j∧j<k∧l[j]=y:=by
 obtain⟨i,hi,he⟩:=dQ h
 rw[aA,ai]at hi
 rw[IM,IL]at he
 exact⟨f+i,by omega,by omega,by omega,he⟩
theorem DH (l:Bytes) (sp:Bool) (w:World) (hl:l.length<=1024000000):Calls prog 161 #[.string (bs l),.bool sp] w (fd w 9 (Strs (fI sp l))):=by
 obtain⟨i1,hi1,hz1,hz2,hz3⟩:=info_parts kF
 obtain⟨T,hT⟩:=ap (fI sp l)
 rw[<-hT]
 have HT:=h_ hT;clear hT
 obtain⟨s,hs⟩:=ap (bs l)
 have hsz:s.size=l.length:=by rw[hs,aB]
 have hby:∀ k (hk:k<s.size) (hk2:k<l.length),((s[k]'hk).toNat:Int)=b2 l[k]:=fun k hk hk2=>bV hs hk hk2
 have hex:∀ f k,s.extract f k=bs ((l.drop f).take (k-f)):=fun f k=>by rw[hs,bM]
 rw[<-hs]
 clear hs
 obtain⟨N,hN⟩:=ap (s.size)
 have jF:s.size=N:=hN.symm
 have pg:N<=1024000000:=by omega
 have fF:=h_ hby;clear hby
 have IE:=h_ hex;clear hex
 have e7:=h_ hsz;clear hsz hl hN
 go_enter func161,ntmps161
 go_wp2_with fail
 go_loopw [5,6,7] (fun ov fv iv wr=>∃ (k f:Nat) (o:List Bytes),k<=N∧f<=k∧o.length<=k∧iv=.int .i64 k∧fv=.int .i64 f∧Hid (wr.ownsRow w.heap.size 9 1 ov o.length (Strs o))∧Hid (o++fI sp (l.drop f)=T∧∀ j (hj:j<l.length),f<=j->j<k->kE sp l[j]=false)∧Hid (Below w.heap.size w wr)) (fun _ _ i _=>N-(intOf i).toNat)
 case atStart=>exact⟨0,0,[],by omega,by omega,by simp,by simp,by simp,World.ownsRow_nil _ _ _ _,⟨by rw[HT.out];rfl,fun j _ _ h=>absurd h (bE j)⟩,Below.refl _ _⟩
 case round =>
  obtain⟨k,f,o,hk,hfk,hol,rfl,rfl,HO,hinv,HB⟩:=hrel
  have hwz:w.heap.size<=wr.heap.size:=HB.out.size
  obtain⟨al,hal⟩:=ap (o.length)
  have ho:=HO.out
  rw[<-hal]at ho hol
  have eO:=h_ ho;clear ho HO
  have lI:=h_ hal;clear hal
  by_cases hlt:k<N
  ·have lV:k<s.size:=by omega
   have hkl:k<l.length:=by have:=e7.out;omega
   have hx:=fF.out k lV hkl
   obtain⟨Vr,Vs⟩:=hinv.out
   have hb:=@slP_b sp l[k]
   have hmiss:kE sp l[k]=false->(o++fI sp (l.drop f)=T∧∀ j (hj:j<l.length),f<=j->j<k+1->kE sp l[j]=false):=fun h=>⟨Vr,fun j hj h1 h2=>by
    rcases cU j k with h3|h3
    ·exact Vs j hj h1 h3
    obtain rfl:j=k:=by omega
    exact h⟩
   obtain⟨p,hp⟩:=ap ((l.drop f).take (k-f))
   have hhit:kE sp l[k]=true->((o++[p])++fI sp (l.drop (k+1))=T∧∀ j (hj:j<l.length),k+1<=j->j<k+1->kE sp l[j]=false):=fun h=>by
    refine⟨?_,fun j _ h1 h2=>by omega⟩
    have e:l.drop f=p++l[k]::l.drop (k+1):=by
     rw[hp,<-List.drop_eq_getElem_cons hkl]
     have:l.drop k=(l.drop f).drop (k-f):=by rw[oH];congr 1;omega
     rw[this,cT]
    have hs:=Nz (sp:=sp) (p:=p) (fun y hy=>by
     rw[hp]at hy
     obtain⟨j,hj,h1,h2,rfl⟩:=Fb hy
     exact Vs j hj h1 h2) h (l.drop (k+1))
    rw[<-e]at hs
    rw[<-Vr,hs]
    simp
   have Zp:=IE.out f k
   rw[<-hp]at Zp
   have hsn:=gV o p
   obtain⟨u,hu⟩:=ap (bs p)
   rw[<-hu]at Zp hsn
   rw[hb]at hmiss hhit
   obtain⟨X,hX⟩:=ap (b2 l[k])
   rw[<-hX]at hx hmiss hhit
   have u3:=h_ hmiss
   have FM:=h_ hhit
   have lC:=h_ hsn
   have hfs:f<=s.size:=by omega
   have a33:(f:Int)<=k:=by omega
   have a8U:(k:Int)<=N:=by omega
   have hw1:IntKind.i64.wrap ((k:Int)+1)=((k+1:Nat):Int):=by rw[show(k:Int)+1=((k+1:Nat):Int) by omega];exact IntWalk.i64_in _ (by omega)
   obtain⟨K,hK⟩:=ap (k+1)
   rw[<-hK]at hw1
   have HK:=h_ hK
   clear hinv Vr Vs hb hmiss hhit hp hsn hu hX hK
   by_cases h47:X=47
   ·subst h47
    have HS:=h_ (FM.out (by simp));clear u3 FM
    go_wp2_with (first|(at_builtin;(refine ez rfl (.tmp 27) (.tmp 32) _ rfl w.heap.size 9 i1 (.string ⟨#[]⟩) 16 underlying28 hi1 hz1 hz2 hz3 (by decide) _ _ _ (Strs o) rfl eO.out (.string u) rfl rfl (by omega) (by decide) (by omega) ?_);intro v2 w2 hown2 hw2 hb2;have FO:=h_ hown2;clear hown2;have HB2:=h_ hb2;clear hb2)|fail)
    go_roundw
    case rel =>
     have hke:=HK.out
     subst hke
     refine⟨k+1,k+1,o++[p],by omega,by omega,by rw[af,<-lI.out];simp;omega,by rfl,by rfl,?_,HS.out,HB.out.trans HB2.out⟩
     show World.ownsRow _ _ _ _ _ _ _
     rw[lC.out,af,<-lI.out]
     exact FO.out
    case measure=>have:=HK.out;simp[intOf];omega
   have q47:(X==47)=false:=by simpa using h47
   cases sp with
   |false =>
    have HS:=h_ (u3.out (by simp[h47]));clear u3 FM
    go_wp2_with fail
    go_roundw
    case rel =>
     have hke:=HK.out
     subst hke
     exact⟨k+1,f,o,by omega,by omega,by rw[<-lI.out];omega,by rfl,by rfl,by rw[<-lI.out];exact eO.out,HS.out,HB.out⟩
    case measure=>have:=HK.out;simp[intOf];omega
   |true =>
    by_cases Ly:X=92
    ·subst Ly
     have HS:=h_ (FM.out (by simp));clear u3 FM
     go_wp2_with (first|(at_builtin;(refine ez rfl (.tmp 27) (.tmp 32) _ rfl w.heap.size 9 i1 (.string ⟨#[]⟩) 16 underlying28 hi1 hz1 hz2 hz3 (by decide) _ _ _ (Strs o) rfl eO.out (.string u) rfl rfl (by omega) (by decide) (by omega) ?_);intro v2 w2 hown2 hw2 hb2;have FO:=h_ hown2;clear hown2;have HB2:=h_ hb2;clear hb2)|fail)
     go_roundw
     case rel =>
      have hke:=HK.out
      subst hke
      refine⟨k+1,k+1,o++[p],by omega,by omega,by rw[af,<-lI.out];simp;omega,by rfl,by rfl,?_,HS.out,HB.out.trans HB2.out⟩
      show World.ownsRow _ _ _ _ _ _ _
      rw[lC.out,af,<-lI.out]
      exact FO.out
     case measure=>have:=HK.out;simp[intOf];omega
    have q92:(X==92)=false:=by simpa using Ly
    have HS:=h_ (u3.out (by simp[h47,Ly]));clear u3 FM
    go_wp2_with fail
    go_roundw
    case rel =>
     have hke:=HK.out
     subst hke
     exact⟨k+1,f,o,by omega,by omega,by rw[<-lI.out];omega,by rfl,by rfl,by rw[<-lI.out];exact eO.out,HS.out,HB.out⟩
    case measure=>have:=HK.out;simp[intOf];omega
  obtain rfl:k=N:=by omega
  have hex:=IE.out f k
  have hln:(l.drop f).take (k-f)=l.drop f:=aI (by rw[ai];have:=e7.out;omega)
  rw[hln]at hex
  obtain⟨h1,h2⟩:=hinv.out
  have hpc:fI sp (l.drop f)=[l.drop f]:=Dz (fun y hy=>by
   have hy2:y∈(l.drop f).take (k-f):=by rw[hln];exact hy
   obtain⟨j,hj,h3,h4,rfl⟩:=Fb hy2
   exact h2 j hj h3 h4)
  rw[hpc]at h1
  have hsn:=gV o (l.drop f)
  rw[h1]at hsn
  obtain⟨u,hu⟩:=ap (bs (l.drop f))
  rw[<-hu]at hex hsn
  have lC:=h_ hsn
  have yT:=h_ (show T.length=al+1 by rw[<-h1,af,<-lI.out];rfl)
  have hfs:f<=s.size:=by omega
  have a33:(f:Int)<=k:=by omega
  clear hinv h1 h2 hpc hsn hu hln lI
  go_wp2_with (first|(at_builtin;(refine ez rfl (.tmp 36) (.tmp 40) _ rfl w.heap.size 9 i1 (.string ⟨#[]⟩) 16 underlying28 hi1 hz1 hz2 hz3 (by decide) _ _ _ (Strs o) rfl eO.out (.string u) rfl rfl (by omega) (by decide) (by omega) ?_);intro v2 w2 hown2 hw2 hb2;have FO:=h_ hown2;clear hown2;have HB2:=h_ hb2;clear hb2)|fail)
  go_ret
  refine⟨_,rfl,?_,HB.out.trans HB2.out⟩
  rw[aj,yT.out,lC.out]
  exact FO.out

theorem Hs:∀ k:Fin 256,(uI 0 (UInt8.ofNat k.val)).all (fun y=>!jW 0 (b2 y)&&(y==UInt8.ofNat k.val||y==37||(decide (48<=b2 y∧b2 y<=57)||decide (65<=b2 y∧b2 y<=70))))=true:=by decide +kernel
theorem xZ {l:Bytes} {y:UInt8} (h:y∈df 0 l):jW 0 (b2 y)=false∧(y∈l∨y=37∨(48<=b2 y∧b2 y<=57)∨(65<=b2 y∧b2 y<=70)):=by
 obtain⟨x,hx,hy⟩:=lE.mp h
 have hf:=Hs ⟨x.toNat,x.toNat_lt⟩
 simp only[cC]at hf
 have:=ch.mp hf y hy
 simp only[dC,je,Bool.not_eq_true',beq_iff_eq,decide_eq_true_eq]at this
 obtain⟨h1,h2⟩:=this
 refine⟨h1,?_⟩
 rcases h2 with(h2|h2)|h2|h2
 ·exact .inl (h2▸hx)
 ·exact .inr (.inl h2)
 ·exact .inr (.inr (.inl h2))
 exact .inr (.inr (.inr h2))
theorem V5 {l:Bytes} {c:UInt8} (hc:c≠37∧¬ (48<=b2 c∧b2 c<=57)∧¬ (65<=b2 c∧b2 c<=70)) (h:c∉l):c∉df 0 l:=fun hm=>by
 rcases(xZ hm).2 with h1|h1|h1|h1
 ·exact h h1
 ·exact hc.1 h1
 ·exact hc.2.1 h1
 exact hc.2.2 h1
theorem M5 {l:Bytes} (h:l.head? ≠ some 47):(df 0 l).head? ≠ some 47:=by
 cases l with
 |nil=>exact h
 |cons c t =>
  rw[fC]
  unfold uI
  split
  ·simp
  simpa using h
def j7 (fl:Bytes) (x:Bool):Bytes:=if x=true∧fl.getLast? = some 32 then fl.dropLast++[37,50,48]else fl
theorem M6 {l:Bytes} (h:l.getLast? ≠ some 32):(df 0 l).getLast? ≠ some 32:=by
 cases hl:l.getLast? with
 |none =>
  have:l=[]:=List.getLast?_eq_none_iff.mp hl
  subst this
  simp[df]
 |some c =>
  obtain⟨r,rfl⟩:=XZ.mp hl
  have e:df 0 (r++[c])=df 0 r++uI 0 c:=by unfold df;simp
  rw[e]
  have key:∀ k:Fin 256,UInt8.ofNat k.val≠32->(uI 0 (UInt8.ofNat k.val)).getLast?.isSome=true∧(uI 0 (UInt8.ofNat k.val)).getLast? ≠ some 32:=by decide +kernel
  have hk:=key ⟨c.toNat,c.toNat_lt⟩
  simp only[cC]at hk
  have hk:=hk (fun e=>h (by rw[hl,e]))
  obtain⟨y,hy⟩:=a1e.mp hk.1
  rw[yD,hy]
  intro h2
  apply hk.2
  rw[hy]
  simpa using h2
theorem Ko (fl:Bytes) (a b:Bool):(if(a=true∨b=true)∧fl.getLast? = some 32 then fl.dropLast++[37,50,48]else fl)=j7 fl (a||b):=by
 unfold j7
 simp only[je]
theorem Dg {p:jP} {u:Url} (hp:qV p) (hs:vh p.aC) (hsp:ep p.aC=false) (h:fj p=some u):Good u:=by
 have hd:=ph hp p.aC
 have hnf:p.aC≠aR:=fun e=>by rw[e,sV]at hsp;cases hsp
 unfold fj at h
 dsimp only at h
 split at h
 ·exact oQ hp hs hnf h
 ·injection h with h
  subst h
  exact⟨hs,hd.q,hd.qe,hd.f,hd.fe,gB pz,eI (fx _),fun _=>rfl,.none rfl hsp rfl ⟨rfl,rfl,rfl,rfl⟩ iS⟩
 next n1 n2 =>
 rw[Ko]at h
 injection h with h
 subst h
 have h47:p.rest.head? ≠ some 47:=by
  intro e
  cases hr:p.rest with
  |nil=>rw[hr]at e;cases e
  |cons c t =>
   rw[hr]at e
   injection e with e
   subst e
   exact n2 t hr
 have hmem:∀ c:UInt8,c≠37∧¬ (48<=b2 c∧b2 c<=57)∧¬ (65<=b2 c∧b2 c<=70)->c∉p.rest->c∉j7 (df 0 p.rest) (p.bP||p.bS):=by
  intro c hc hn hm
  have h0:=V5 hc hn
  unfold j7 at hm
  split at hm
  ·rcases bl.mp hm with hm|hm
   ·exact h0 (lT _ hm)
   simp only[aN,ci,or_false]at hm
   rcases hm with rfl|rfl|rfl
   ·exact hc.1 rfl
   ·exact hc.2.1 (by decide)
   exact hc.2.1 (by decide)
  exact h0 hm
 have hall:∀ y∈j7 (df 0 p.rest) (p.bP||p.bS),jW 0 (b2 y)=false:=by
  intro y hy
  unfold j7 at hy
  split at hy
  ·rcases bl.mp hy with hy|hy
   ·exact(xZ (lT _ hy)).1
   simp only[aN,ci,or_false]at hy
   rcases hy with rfl|rfl|rfl <;>decide
  exact(xZ hy).1
 have hhd:(j7 (df 0 p.rest) (p.bP||p.bS)).head? ≠ some 47:=by
  have h0:=M5 h47
  unfold j7
  split
  ·intro e
   cases hd:(df 0 p.rest).dropLast with
   |nil=>rw[hd]at e;simp at e
   |cons c t =>
    rw[hd]at e
    apply h0
    cases hq:df 0 p.rest with
    |nil=>rw[hq]at hd;cases hd
    |cons c2 t2 =>
     rw[hq]at hd
     cases t2 with
     |nil=>cases hd
     |cons d r =>
      injection hd with h1 h2
      rw[h1];exact e
  exact h0
 have hla:(j7 (df 0 p.rest) (p.bP||p.bS)).getLast? ≠ some 32:=by
  unfold j7
  split
  ·rw[yD];simp
  next hn =>
  intro e
  cases hqf:(p.bP||p.bS)with
  |true=>exact hn ⟨hqf,e⟩
  |false =>
   rw[yy]at hqf
   exact M6 (hp.e hqf.1 hqf.2) e
 exact⟨hs,hd.q,hd.qe,hd.f,hd.fe,pz,fx _,fun h=>(by cases h),.opq rfl hsp rfl rfl ⟨rfl,rfl,rfl,rfl⟩ (ya hall) hhd hla ⟨hmem 35 (by decide) hp.r.1,hmem 63 (by decide) hp.r.2⟩⟩
theorem GA {b:Url} {p:jP} {u:Url} (hb:Good b) (ho:b.opq=true) (h:jV b p=some u):Good u:=by
 unfold jV at h
 split at h
 ·cases h
 injection h with h
 subst h
 have hbd:Body {b with bS:=true,f:=df 1 p.f}:=by
  cases hb.body with
  |opq h1 h2 h3 h4 h5 h7 h8 h9 h10=>exact .opq h1 h2 h3 h4 ⟨h5.u,h5.p,h5.h,h5.n⟩ h7 h8 h9 h10
  |none h1=>rw[ho]at h1;cases h1
  |file h1=>rw[ho]at h1;cases h1
  |asked h1=>rw[ho]at h1;cases h1
 exact⟨hb.aC,hb.q,hb.qe,fun h=>(by cases h),sP enc1 p.f,hb.pc,hb.fi,hb.fl,hbd⟩
theorem nd {b v:Url} (hb:Good b) (ho:b.opq=false) (hnf:b.aC≠aR) (e0:v.aC=b.aC) (e1:v.usr=b.usr) (e2:v.ed=b.ed) (e3:v.host=b.host) (e4:v.aZ=b.aZ) (e5:v.port=b.port) (e6:v.opq=false) (hp:v.path ≠ []∨v.path=b.path):Body v:=by
 have hpp:b.path ≠ []->v.path ≠ []:=fun h=>hp.elim id (fun e=>e▸h)
 have a3T:Ei v=Ei b:=by unfold Ei;rw[e1,e2,e3,e4,e5]
 cases hb.body with
 |opq h1=>rw[ho]at h1;cases h1
 |none h1 h2 h3 h5 hq=>exact .none e6 (by rw[e0];exact h2) (by rw[e3];exact h3) ⟨by rw[e1];exact h5.u,by rw[e2];exact h5.p,by rw[e4];exact h5.h,by rw[e5];exact h5.n⟩ (hpp hq)
 |file h1 hs=>exact absurd hs hnf
 |asked h1 hs ha hq=>exact .asked e6 (by rw[e0];exact hs) (by rw[a3T,e0];exact ha) (fun h=>hpp (hq (by rw[<-e0];exact h)))
theorem Np {b:Url} {p:jP} {u:Url} (hb:Good b) (hp:qV p) (ho:b.opq=false) (hnf:b.aC≠aR) (h:pF b p=some u):Good u:=by
 have hd:=ph hp b.aC
 unfold pF at h
 dsimp only at h
 split at h
 ·exact oQ hp hb.aC hnf h
 split at h
 ·exact oQ hp hb.aC hnf h
 split at h
 ·injection h with h
  subst h
  exact⟨hb.aC,hd.q,hd.qe,hd.f,hd.fe,gB pz,eI (fx _),fun _=>rfl,nd hb ho hnf rfl rfl rfl rfl rfl rfl rfl (.inl iS)⟩
 split at h
 ·injection h with h
  subst h
  unfold eV
  split
  ·exact⟨hb.aC,hd.q,hd.qe,hd.f,hd.fe,hb.pc,hb.fi,fun _=>rfl,nd hb ho hnf rfl rfl rfl rfl rfl rfl rfl (.inr rfl)⟩
  exact⟨hb.aC,hb.q,hb.qe,hd.f,hd.fe,hb.pc,hb.fi,fun _=>rfl,nd hb ho hnf rfl rfl rfl rfl rfl rfl rfl (.inr rfl)⟩
 injection h with h
 subst h
 exact⟨hb.aC,hd.q,hd.qe,hd.f,hd.fe,gB (fun x hx=>hb.pc x (jb hx)),eI (jU hb.fi),fun _=>rfl,nd hb ho hnf rfl rfl rfl rfl rfl rfl rfl (.inl iS)⟩
theorem vO {b:Url} {p:jP} {u:Url} (hb:Good b∨(b=U0∧p.fQ=true)) (hp:qV p) (h:d9 b p=some u):Good u:=by
 have hU:¬ Good b->p.fQ=true:=fun hn=>hb.elim (fun g=>absurd g hn) (fun e=>e.2)
 unfold d9 at h
 split at h
 ·refine Gy hp (fun e=>?_) h
  rcases hb with g|⟨e1,_⟩
  ·exact g
  rw[e1]at e;cases e
 next h1 =>
 split at h
 ·next h2=>exact oQ hp (hp.s h2.1.1) (fun e=>h1 (.inl ⟨h2.1.1,e⟩)) h
 next h2 =>
 split at h
 ·next h3=>exact Dg hp (hp.s h3.1) (by simpa using h3.2) h
 next h3 =>
 have g:Good b:=by
  rcases hb with g|⟨e1,e2⟩
  ·exact g
  exfalso
  by_cases hs:ep p.aC=true
  ·refine h2 ⟨⟨e2,hs⟩,.inl (fun e=>?_)⟩
   rw[e1]at e
   rw[e]at hs
   revert hs;decide
  exact h3 ⟨e2,hs⟩
 split at h
 ·next h4=>exact GA g h4 h
 next h4 =>
 have ho:b.opq=false:=by simpa using h4
 refine Np g hp ho (fun e=>?_) h
 cases hq:p.fQ with
 |false=>exact h1 (.inr ⟨hq,ho,e⟩)
 |true =>
  by_cases hs:ep p.aC=true
  ·by_cases he:p.aC=b.aC
   ·exact h1 (.inl ⟨hq,he.trans e⟩)
   exact h2 ⟨⟨hq,hs⟩,.inl he⟩
  exact h3 ⟨hq,hs⟩
theorem Dp {b u:Url} {s:Bytes} (hb:Good b) (h:mC b s=some u):Good u:=vO (.inl hb) (Nd s) h
theorem tQ {u:Url} {s:Bytes} (h:gv s=some u):Good u:=by
 unfold gv at h
 split at h
 ·next hs=>exact vO (.inr ⟨rfl,hs⟩) (Nd s) h
 cases h

def P0:jP:=⟨false,[],[],false,[],false,[]⟩
abbrev aT (p:jP):Array Value:=#[.bool p.fQ,S p.aC,S p.rest,.bool p.bP,S p.q,.bool p.bS,S p.f]
theorem lk:(prog.info? 68).map (·.size)=some 7:=by kernel_rfl
theorem Yk (w:World):(Instr.alloc 68 true (Value.tuple #[])).run prog w=.ok (.pointer (some ⟨w.heap.size,0,none⟩)) (w.alloc (.cells (aT P0) 68)):=by kernel_rfl
theorem Fh {p:jP}:∀ v∈(aT p).toList,v.oneCell'=true:=by
 intro v hv
 simp only[aN,ci,or_false]at hv
 rcases hv with e|e|e|e|e|e|e <;>(rw[e];rfl)
theorem M4 {tmps:Array Value} {w w2:World} {b:Nat} {p:jP} (h2:tmps.getD 2 undef=.pointer (some ⟨b,0,none⟩)) (i:OB w b 68 (aT p) w2) {R:jP} (hR:p=R) :
  bodyPost prog f33 (fun e w'=>e=.returned (.agg (aT R))∧Below w.heap.size w w') Exit.ret {tmps:=tmps,defers:=[]} w2:=by
 subst hR
 have h2':tmps[2]?.getD undef=.pointer (some ⟨b,0,none⟩):=by simpa using h2
 have hl:=i.load (P:=prog) 68 _ underlying68 rfl lk
 refine bodyPost_ret (v:=.agg (aT p)) ?_ rfl ⟨rfl,i.bq⟩
 simp[results,results33,asAddr,h2',hl]
theorem gm (c:UInt8) (s:Bytes):(bR c s).1.length<=s.length∧(bR c s).2.1.length<=s.length:=by
 have h:=congrArg List.length (kR c s)
 rw[af]at h
 by_cases hf:(bR c s).2.2=true
 ·rw[if_pos hf,ag]at h
  omega
 rw[fu c s (by simpa using hf)]
 simp only[aQ]
 omega
theorem wI (s:Bytes) (w:World) (hl:s.length<=1024000000) (hE:Env w):Calls prog 33 #[.string (bs s)] w fun e w'=>e=.returned (.agg (aT (eJ s)))∧Below w.heap.size w w':=by
 have hsf:eJ s=if(bR 58 (bR 63 (bR 35 s).1).1).2.2=true∧tX (bR 58 (bR 63 (bR 35 s).1).1).1=true then⟨true,(bR 58 (bR 63 (bR 35 s).1).1).1.map dc,(bR 58 (bR 63 (bR 35 s).1).1).2.1,(bR 63 (bR 35 s).1).2.2,(bR 63 (bR 35 s).1).2.1,(bR 35 s).2.2,(bR 35 s).2.1⟩else⟨false,[],(bR 63 (bR 35 s).1).1,(bR 63 (bR 35 s).1).2.2,(bR 63 (bR 35 s).1).2.1,(bR 35 s).2.2,(bR 35 s).2.1⟩:=rfl
 obtain⟨R,hR⟩:=ap (eJ s)
 rw[<-hR]
 rw[<-hR]at hsf
 clear hR
 have l1:=gm 35 s
 have k1:=fun(W:World) (hW:Below w.heap.size w W)=>gy s [35] W hl (hE.below hW)
 rw[z7]at k1
 generalize bR 35 s=C1 at *
 obtain⟨a,f,hf⟩:=C1
 simp only at hsf l1 k1
 have l2:=gm 63 a
 have k2:=fun(W:World) (hW:Below w.heap.size w W)=>gy a [63] W (by omega) (hE.below hW)
 rw[z7]at k2
 generalize bR 63 a=C2 at *
 obtain⟨b,q,hq⟩:=C2
 simp only at hsf l2 k2
 have l3:=gm 58 b
 have k3:=fun(W:World) (hW:Below w.heap.size w W)=>gy b [58] W (by omega) (hE.below hW)
 rw[z7]at k3
 generalize bR 58 b=C3 at *
 obtain⟨c,d,hc⟩:=C3
 simp only at hsf l3 k3
 have kn:=fun W=>Dk c W (by omega)
 have kl:=fun W=>qy c W (by unfold maxLen;omega)
 generalize tX c=sn at hsf kn
 obtain⟨S0,hS0⟩:=ap (bs s)
 obtain⟨SA,hSA⟩:=ap (bs a)
 obtain⟨SB,hSB⟩:=ap (bs b)
 obtain⟨SC,hSC⟩:=ap (bs c)
 have K1:=h_ (show ∀W,Below w.heap.size w W->Calls prog 68 #[.string S0,.string ⟨#[35]⟩] W fun e w'=>e=.returned (.tuple #[.string SA,S f,.bool hf])∧Below W.heap.size W w' from by rw[hS0,hSA];exact k1)
 have K2:=h_ (show ∀W,Below w.heap.size w W->Calls prog 68 #[.string SA,.string ⟨#[63]⟩] W fun e w'=>e=.returned (.tuple #[.string SB,S q,.bool hq])∧Below W.heap.size W w' from by rw[hSA,hSB];exact k2)
 have K3:=h_ (show ∀W,Below w.heap.size w W->Calls prog 68 #[.string SB,.string ⟨#[58]⟩] W fun e w'=>e=.returned (.tuple #[.string SC,S d,.bool hc])∧Below W.heap.size W w' from by rw[hSB,hSC];exact k3)
 have KN:=h_ (show ∀W,Calls prog 69 #[.string SC] W fun e w'=>e=.returned (.bool sn)∧w'=W from by rw[hSC];exact kn)
 have KL:=h_ (show ∀W,Calls prog 70 #[.string SC] W fun e w'=>e=.returned (S (c.map dc))∧Below W.heap.size W w' from by rw[hSC];exact kl)
 have RK:=h_ hSB
 rw[<-hS0]
 have TU:=h_ hsf
 clear k1 k2 k3 kn kl hS0 hSA hSB hSC l1 l2 l3 hsf hl hE
 generalize c.map dc=cl at *
 go_enter func33,ntmps33
 go_upto_region 2 with(first
  |(refine aE rfl 68 rfl _ _ (Yk _) ?_)
  |fail)
 have h4:=OB.fresh w 68 (aT P0)
 obtain⟨w1,hw1⟩:=ap (w.alloc (.cells (aT P0) 68))
 rw[<-hw1]at h4 ⊢
 have hz1:w1.heap.size=w.heap.size+1:=by rw[hw1];simp
 have h6:=OB.fresh w1 68 (aT P0)
 rw[hz1]at h6
 try rw[hz1]
 have H4:=h_ h4;clear h4
 clear hw1
 obtain⟨w2,hw2⟩:=ap (w1.alloc (.cells (aT P0) 68))
 rw[<-hw2]at h6 ⊢
 clear hw2
 have H6:=h_ h6;clear h6
 have DU:=h_ (show ∀W,Below w1.heap.size w1 W->Below w.heap.size w W from fun W hW=>fJ H4.out.bq hW)
 clear hz1
 go_upto_region 3 with(first
  |(go_at_call 68;refine(K1.out _ (DU.out _ H6.out.bq)).mono ?_;rintro e w3 ⟨rfl,hb⟩;have Xn:=h_ (H6.out.below hb);clear hb)
  |(refine mB rfl 9 (.tmp 13) (.tmp 11) rfl w1 (w.heap.size+1) 68 (aT P0) Xn.out 6 (S f) rfl rfl (show 6<7 by decide) bF.1 rfl (aT {P0 with f:=f}) rfl ?_;intro w4 i _ _;have N9:=h_ i;clear i)
  |(refine mB rfl 4 (.tmp 14) (.tmp 12) rfl w1 (w.heap.size+1) 68 (aT {P0 with f:=f}) N9.out 5 (.bool hf) rfl rfl (show 5<7 by decide) bF.2.2 rfl (aT {P0 with f:=f,bS:=hf}) rfl ?_;intro w5 i _ _;have Jh:=h_ i;clear i)
  |fail)
 clear H6 Xn N9
 go_upto_region 4 with(first
  |(go_at_call 68;refine(K2.out _ (DU.out _ Jh.out.bq)).mono ?_;rintro e w6 ⟨rfl,hb⟩;have Rr:=h_ (Jh.out.below hb);clear hb)
  |(refine mB rfl 9 (.tmp 21) (.tmp 19) rfl w1 (w.heap.size+1) 68 (aT {P0 with f:=f,bS:=hf}) Rr.out 4 (S q) rfl rfl (show 4<7 by decide) bF.1 rfl (aT {P0 with f:=f,bS:=hf,q:=q}) rfl ?_;intro w7 i _ _;have OC:=h_ i;clear i)
  |(refine mB rfl 4 (.tmp 22) (.tmp 20) rfl w1 (w.heap.size+1) 68 (aT {P0 with f:=f,bS:=hf,q:=q}) OC.out 3 (.bool hq) rfl rfl (show 3<7 by decide) bF.2.2 rfl (aT {P0 with f:=f,bS:=hf,q:=q,bP:=hq}) rfl ?_;intro w8 i _ _;have Rt:=h_ i;clear i)
  |fail)
 clear Jh Rr OC
 go_upto_region 5 with(first
  |(refine mB rfl 9 (.tmp 24) (.tmp 23) rfl w1 (w.heap.size+1) 68 (aT {P0 with f:=f,bS:=hf,q:=q,bP:=hq}) Rt.out 2 (.string SB) rfl rfl (show 2<7 by decide) bF.1 rfl (aT {P0 with f:=f,bS:=hf,q:=q,bP:=hq,rest:=b}) (by rw[RK.out];rfl) ?_;intro w9 i _ _;have H69:=h_ i;clear i)
  |fail)
 clear Rt
 go_upto_region 6 with(first
  |(go_at_call 68;refine(K3.out _ (DU.out _ H69.out.bq)).mono ?_;rintro e wV ⟨rfl,hb⟩;have Xo:=h_ (H69.out.below hb);clear hb)
  |fail)
 clear H69
 cases hc with
 |false =>
  have HR:=h_ (show R=⟨false,[],b,hq,q,hf,f⟩from TU.out)
  go_upto_region 10 with(first
   |(go_at_call 69;refine(KN.out _).mono ?_;rintro e Ow ⟨rfl,hw⟩;subst hw)
   |fail)
  have A9:=h_ (H4.out.below Xo.out.bq)
  go_wp2_with (first
   |(refine zP rfl 68 (.tmp 3) rfl w1 (w.heap.size+1) 68 (aT {P0 with f:=f,bS:=hf,q:=q,bP:=hq,rest:=b}) Xo.out _ rfl underlying68 rfl lk ?_)
   |(refine Hu rfl 68 (.tmp 2) (.tmp 42) rfl w w.heap.size 68 (aT P0) A9.out 0 (aT {P0 with f:=f,bS:=hf,q:=q,bP:=hq,rest:=b}).toList rfl rfl (ae _) lk Fh (aT {P0 with f:=f,bS:=hf,q:=q,bP:=hq,rest:=b}) rfl ?_;intro w12 i;have Ba:=h_ i;clear i)
   |fail)
  exact M4 rfl Ba.out (by rw[HR.out];rfl)
 |true =>
  cases sn with
  |false =>
   have HR:=h_ (show R=⟨false,[],b,hq,q,hf,f⟩from TU.out)
   go_upto_region 10 with(first
    |(go_at_call 69;refine(KN.out _).mono ?_;rintro e Ow ⟨rfl,hw⟩;subst hw)
    |fail)
   have A9:=h_ (H4.out.below Xo.out.bq)
   go_wp2_with (first
    |(refine zP rfl 68 (.tmp 3) rfl w1 (w.heap.size+1) 68 (aT {P0 with f:=f,bS:=hf,q:=q,bP:=hq,rest:=b}) Xo.out _ rfl underlying68 rfl lk ?_)
    |(refine Hu rfl 68 (.tmp 2) (.tmp 42) rfl w w.heap.size 68 (aT P0) A9.out 0 (aT {P0 with f:=f,bS:=hf,q:=q,bP:=hq,rest:=b}).toList rfl rfl (ae _) lk Fh (aT {P0 with f:=f,bS:=hf,q:=q,bP:=hq,rest:=b}) rfl ?_;intro w12 i;have Ba:=h_ i;clear i)
    |fail)
   exact M4 rfl Ba.out (by rw[HR.out];rfl)
  |true =>
   have HR:=h_ (show R=⟨true,cl,d,hq,q,hf,f⟩from TU.out)
   go_upto_region 10 with(first
    |(go_at_call 69;refine(KN.out _).mono ?_;rintro e Ow ⟨rfl,hw⟩;subst hw)
    |(go_at_call 70;refine(KL.out _).mono ?_;rintro e w13 ⟨rfl,hb⟩;have H73:=h_ (H71.out.below hb);clear hb)
    |(refine mB rfl 4 (.tmp 36) (.const (.bool true)) rfl w1 (w.heap.size+1) 68 (aT {P0 with f:=f,bS:=hf,q:=q,bP:=hq,rest:=b}) Xo.out 0 (.bool true) rfl rfl (show 0<7 by decide) bF.2.2 rfl (aT {P0 with f:=f,bS:=hf,q:=q,bP:=hq,rest:=b,fQ:=true}) rfl ?_;intro w12 i _ _;have H71:=h_ i;clear i)
    |(refine mB rfl 9 (.tmp 39) (.tmp 38) rfl w1 (w.heap.size+1) 68 (aT {P0 with f:=f,bS:=hf,q:=q,bP:=hq,rest:=b,fQ:=true}) H73.out 1 (S cl) rfl rfl (show 1<7 by decide) bF.1 rfl (aT {P0 with f:=f,bS:=hf,q:=q,bP:=hq,rest:=b,fQ:=true,aC:=cl}) rfl ?_;intro r6 i _ _;have H74:=h_ i;clear i)
    |(refine mB rfl 9 (.tmp 41) (.tmp 40) rfl w1 (w.heap.size+1) 68 (aT {P0 with f:=f,bS:=hf,q:=q,bP:=hq,rest:=b,fQ:=true,aC:=cl}) H74.out 2 (S d) rfl rfl (show 2<7 by decide) bF.1 rfl (aT {P0 with f:=f,bS:=hf,q:=q,bP:=hq,rest:=d,fQ:=true,aC:=cl}) rfl ?_;intro w15 i _ _;have H75:=h_ i;clear i)
    |fail)
   have A9:=h_ (H4.out.below H75.out.bq)
   go_wp2_with (first
    |(refine zP rfl 68 (.tmp 3) rfl w1 (w.heap.size+1) 68 (aT {P0 with f:=f,bS:=hf,q:=q,bP:=hq,rest:=d,fQ:=true,aC:=cl}) H75.out _ rfl underlying68 rfl lk ?_)
    |(refine Hu rfl 68 (.tmp 2) (.tmp 42) rfl w w.heap.size 68 (aT P0) A9.out 0 (aT {P0 with f:=f,bS:=hf,q:=q,bP:=hq,rest:=d,fQ:=true,aC:=cl}).toList rfl rfl (ae _) lk Fh (aT {P0 with f:=f,bS:=hf,q:=q,bP:=hq,rest:=d,fQ:=true,aC:=cl}) rfl ?_;intro w12 i;have Ba:=h_ i;clear i)
    |fail)
   exact M4 rfl Ba.out HR.out.symm
end Go.Proofs.YtmndlfglgcioeaaGreatDoor
