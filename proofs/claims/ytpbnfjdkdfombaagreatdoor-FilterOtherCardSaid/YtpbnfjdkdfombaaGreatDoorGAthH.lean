/- Joined texts. -/
import Derived.Test.YtpbnfjdkdfombaaGreatDoorGHlwA
set_option maxHeartbeats 40000000
namespace Go.Proofs.YtpbnfjdkdfombaaGreatDoor
open Tryz
open Go.RowKit
set_option maxRecDepth 10000
def JG(l:O):Option (O×O×O):=match zL l with
 |none=>some (l,[],[])
 |some (who,rest)=>if rest=[]then none else some (rest,dD 5 (qH who).1,dD 5 (qH who).2)
theorem Ii(aJ l:O):kr aJ l=match JG l with|none=>none|some (s,u,p)=>tG aJ s u p:=by
 unfold kr JG;cases zL l with
 |none=>rfl
 |some v =>
  obtain⟨a,b⟩:=v;dsimp only
  split <;>rfl
def Ng(s:O):Option (O×O):=match ns false s with
 |none=>some (s,[])
 |some k=>if s.take k=[]then none else some (s.take k,s.drop (k+1))
theorem JA(aJ s u p:O):tG aJ s u p=match Ng s with|none=>none|some (n,q)=>Ct aJ n q u p:=by
 unfold tG Ng;rw[Xx];cases ns false s with
 |none=>rfl
 |some k =>
  simp only[Xg]
  split <;>rfl
theorem NL{tmps:Array Z}{w w2:H}{b:Nat}{a:qj}{q:Bool}(I:tmps.getD 4 undef=.pointer (some ⟨b,0,none⟩))(h3:tmps.getD 5 undef=.bool q)(i:OB w b 166 (bU a) w2)(a8:a.host.six.length=8){R:Option qj}(hR:a=R.getD A0)(hq:q=R.isSome) :
  bodyPost prog f158 (λe w'=>e=a29 R/\r7 w w') Exit.ret {tmps:=tmps,defers:=[]} w2:=by
 have h2':tmps[4]?.getD undef=.pointer (some ⟨b,0,none⟩):=by simpa using I
 have h3':tmps[5]?.getD undef=.bool q:=by simpa using h3
 have hl:=i.load (P:=prog) 166 _ underlying166 rfl (by rw[fC a8];exact qy);refine bodyPost_ret (v:=.tuple #[.agg (bU a),.bool q]) ?_ rfl ⟨by rw[hR,hq],i.bL⟩;simp[results,results158,asAddr,h2',h3',hl]
theorem Rv{ops:Array Oper}{rest:List Oper}{o:Oper}{a:Act}{w:H}{Q:Exit->Act->H->Prop}(hgd:o.guard=none)(x y:Operand)(ho:o.op=.store 166 x y)(w0:H)(b:Nat)(a0 a1:qj)(i:OB w0 b 166 (bU a0) w)
  (h0:a0.host.six.length=8) (Y:a1.host.six.length=8) (X:a.eval x=.pointer (some ⟨b,0,none⟩)) (hy:a.eval y=.agg (bU a1))
  (K:∀ w',OB w0 b 166 (bU a1) w'->wpList prog ops Q rest (a.put o.dst undef) w'):wpList prog ops Q (o::rest) a w :=
 Ma hgd 166 x y ho w0 b 166 (bU a0) i 0 (kq a1) X hy (by rw[fC h0,qz Y];exact ag _) (by rw[qz Y];exact qy) Ig (bU a1) (mQ _ _ (by rw[qz h0,qz Y])) K
theorem Gx{s n q:O}(h:Ng s=some (n,q)):n.length<=s.length/\q.length<=s.length:=by
 unfold Ng at h
 split at h
 ·injection h with h
  injection h with Y I
  subst Y;subst I;simp
 split at h
 ·cases h
 injection h with h
 injection h with Y I
 subst Y;subst I;rw[aD,aj];omega
theorem G4{l s u p:O}(h:JG l=some (s,u,p)):s.length<=l.length:=by
 unfold JG at h;rcases Id l with⟨_,e⟩|⟨i,hi,_,e⟩
 ·rw[e]at h
  injection h with h
  injection h with Y I
  rw[Y];exact ag _
 rw[e]at h;dsimp only at h
 split at h
 ·cases h
 injection h with h
 injection h with Y I
 rw[<-Y,aj];omega
theorem ER(aJ l:O)(w:H)(hl:l.length<=307200000)(hS:∀ s u p n q,JG l=some (s,u,p)->Ng s=some (n,q)->Short n)(hE:Env w):Calls prog 158 #[.string (E aJ),.string (E l)] w λe w'=>e=a29 (kr aJ l)/\r7 w w':=by
 obtain⟨R,hR⟩:=V (kr aJ l);rw[<-hR];rw[Ii]at hR;have HR:=F hR;clear hR;have HSH:=F hS;clear hS;have PZ:=λW=>Any.strings_LastIndexByte laysLib (E l) 64 (by rw[aF];omega) W;have hla:=Id l;obtain⟨I',hI⟩:=V (Lib.lastIndexByte (E l) 64);have CM:∀ W,bP prog 191 #[.string (E l),.int .u8 64] W (.int .i64 I'):=by rw[hI];exact PZ
 rw[<-hI]at hla;have Bt:=F CM;clear CM PZ hI;have hsp:=λW=>gl aJ W;have hpo:=λq W (hq:q.length<=1024000000)=>Kk aJ q W hq;obtain⟨ss,hss⟩:=V (E aJ);rw[<-hss]at hsp hpo ⊢;clear hss;have ji:=F hsp;clear hsp;have ED:=F hpo;clear hpo;obtain⟨s,hs⟩:=V (E l);have hsz:s.size=l.length:=by rw[hs,aF]
 have hx1:∀ k,s.extract 0 k=E (l.take k):=λk=>by rw[hs,cd,dP,pA]
 have hx2:∀ k,s.extract k s.size=E (l.drop k):=λk=>by rw[hs,cd,aF,aP (by rw[aj];omega)]
 have HS:=F hs;rw[<-hs]at Bt ⊢;clear hs;obtain⟨N,hN⟩:=V (s.size);have iP:s.size=N:=hN.symm;rw[iP]at hx2;have oP:N<=307200000:=M0;have mc:N=l.length:=M0;have TM:=F hx1;clear hx1;have TO:=F hx2;clear hx2;have MV:=F hla;clear hla;have HE:=F hE;clear hE;have S1:=F mc;have HL:=F hl;clear hsz hl hN mc;go_enter func158,ntmps158
 go_upto_if 19 with(first
  |(refine aM rfl 166 rfl _ _ (allA _) ?_)
  |(go_at_call 191;refine(Bt.o _).m ?_;rintro e w2 ⟨rfl,hw2⟩;subst hw2))
 have h4:=OB.fresh w 166 (bU A0);obtain⟨w1,hw1⟩:=V (w.alloc (.cells (bU A0) 166));rw[<-hw1]at h4 ⊢;have hz1:w1.heap.size=w.heap.size+1:=by rw[hw1];simp
 have h6:=OB.fresh w1 166 (bU A0);rw[hz1]at h6;have H4:=F h4;clear h4;clear hw1;obtain⟨w2,hw2⟩:=V (w1.alloc (.cells (bU A0) 166));rw[<-hw2]at h6 ⊢;clear hw2;have H6:=F h6;clear h6;have HZ:=F hz1;clear hz1
 go_cut [1] (λsv wx=>∃ s2 u p,JG l=some (s2,u,p)/\sv=.string (E s2)/\Hid (OB w1 (w.heap.size+1) 166 (bU {A0 with user:=u,pass:=p}) wx))
 case first =>
  rcases MV.o with⟨e1,e2⟩|⟨i,hi,e1,e2⟩
  ·subst e1
   have hst:JG l=some (l,[],[]):=by unfold JG;rw[e2]
   have HST:=F hst;clear hst e2 MV;go_wp2_with fail
   go_meet
   case rel=>exact⟨l,[],[],HST.o,by rw[HS.o],H6.o⟩
  subst e1;have e3:=TM.o i;have e4:=TO.o (i+1);have hst:JG l=if l.drop (i+1)=[]then none else some (l.drop (i+1),dD 5 (qH (l.take i)).1,dD 5 (qH (l.take i)).2):=by unfold JG;rw[e2]
  have me:=λW (hW:r7 w W)=>gK (l.take i) [58] W (by rw[aD];have:=HL.o;omega) (HE.o.below hW);rw[yI]at me;rw[Oz]at hst
  have hlen:(bQ 58 (l.take i)).1.length<=307200000/\(bQ 58 (l.take i)).2.1.length<=307200000:=by
   have h:=congrArg List.length (mn 58 (l.take i));have hq:(bQ 58 (l.take i)).2.2=false->(bQ 58 (l.take i)).2.1=[]:=gm 58 _;rw[ae]at h;have:=HL.o;by_cases hf:(bQ 58 (l.take i)).2.2=true
   ·rw[if_pos hf,ah,aD]at h
    omega
   rw[if_neg hf,aO,aD]at h;rw[hq (by simpa using hf)];simp only[aO];omega
  have hin:i+1<=N:=by have:=S1.o;omega
  generalize bQ 58 (l.take i)=C at me hst hlen;obtain⟨c1,c2,c3⟩:=C;simp only at hst hlen me;have hp1:=λW=>eT 5 c1 W M0;have hp2:=λW=>eT 5 c2 W M0;generalize l.take i=who at e3 me;obtain⟨r,hr⟩:=V (E (l.drop (i+1)));have hre:r.toList=[] ↔ l.drop (i+1)=[]:=by rw[hr,aB]
  rw[<-hr]at e4;have HRR:=F hr;clear hr;generalize l.drop (i+1)=rest at hst hre HRR;generalize dD 5 c1=u at hst hp1;generalize dD 5 c2=p at hst hp2;obtain⟨k1,hk1⟩:=V (E c1);obtain⟨k2,hk2⟩:=V (E c2);have ZJ:∀ W,r7 w W->bF prog 63 #[.string (E who),.string ⟨#[58]⟩] W (.tuple #[.string k1,.string k2,.bool c3]):=by rw[hk1,hk2];exact me
  rw[<-hk1]at hp1;rw[<-hk2]at hp2;clear hk1 hk2 me hlen;generalize E who=wh at e3 ZJ;have lB:=F ZJ;clear ZJ;have xO:=F hp1;clear hp1;have X1:=F hp2;clear hp2;have HST:=F hst;clear hst e2 MV;have hn:((i:Int)+1)=((i+1:Nat):Int):=M0;have hwr:IntKind.i64.wrap ((i:Int)+1)=((i+1:Nat):Int):=by rw[hn];exact IntWalk.i64_in _ M0
  have hin2:(((i+1:Nat):Int))<=N:=M0;have hii:(i:Int)<=N:=M0;generalize i+1=i1 at e4 hwr hin hin2;clear hn;have Hp:=F (show ∀W,r7 w1 W->r7 w W from λW hW=>dw H4.o.bL hW)
  go_upto_region 5 with(first
   |(go_at_call 63;refine(lB.o _ (Hp.o _ H6.o.bL)).m ?_;rintro e w3 ⟨rfl,hb3⟩;have H63:=F<|H6.o.below hb3;clear hb3))
  clear H6 lB
  go_upto_region 6 with(first
   |(go_at_call 156;refine(xO.o _).m ?_;rintro e w4 ⟨rfl,hb4⟩;have SU:=F<|H63.o.below hb4;clear hb4)
   |(refine ox rfl 9 (.tmp 30) (.tmp 29) rfl w1 (w.heap.size+1) 166 (bU A0) SU.o 0 (S u) rfl rfl (by rw[fC rfl];decide) bY.1 rfl (bU {A0 with user:=u}) (NR A0 u) ?_;intro w5 i5 _ _;have Ns:=F i5;clear i5))
  clear H63 SU xO
  go_upto_region 7 with(first
   |(go_at_call 156;refine(X1.o _).m ?_;rintro e w6 ⟨rfl,hb6⟩;have WO:=F<|Ns.o.below hb6;clear hb6)
   |(refine ox rfl 9 (.tmp 33) (.tmp 32) rfl w1 (w.heap.size+1) 166 (bU {A0 with user:=u}) WO.o 1 (S p) rfl rfl (by rw[fC rfl];decide) bY.1 rfl (bU {A0 with user:=u,pass:=p}) (NQ {A0 with user:=u} p) ?_;intro w7 i7 _ _;have Tl:=F i7;clear i7))
  clear Ns WO X1;by_cases hrn:rest=[]
  ·have hst:=HST.o
   rw[if_pos hrn]at hst;have he:=hre.mpr hrn;have he1:r.toList.isEmpty=true:=by rw[he];rfl
   have hR:=HR.o;rw[hst]at hR;have iT:=F (show R=none from hR);have Ew:=F<|H4.o.below (Tl.o.bL);clear hst hR hre
   go_wp2_with (first
    |(refine Rv rfl (.tmp 4) (.tmp 40) rfl w w.heap.size A0 A0 Ew.o rfl rfl rfl rfl ?_;intro w8 i8;have Ex:=F i8;clear i8))
   exact NL rfl rfl Ex.o rfl (by rw[iT.o];rfl) (by rw[iT.o];rfl)
  have hst:=HST.o;rw[if_neg hrn]at hst;have he:¬ r.toList=[]:=λh=>hrn (hre.mp h);have he1:r.toList.isEmpty=false:=by simpa using he
  have Hw:=F hst;clear hst hre;go_wp2_with fail
  go_meet
  case rel=>exact⟨rest,u,p,Hw.o,by rw[HRR.o],Tl.o⟩
 case rest =>
  obtain⟨s2,u,p,hst,rfl,h6⟩:=hcut;clear H6 MV TM TO Bt HS S1 oP iP;have hl2:=G4 hst;have Ny:=F hst;have hR:=HR.o;rw[hst]at hR;replace hR:R=tG aJ s2 u p:=hR;have hl3:s2.length<=307200000:=by have:=HL.o;omega
  rw[JA]at hR;have hco:=λW=>Ky s2 W M0;have hnq:Ng s2=match ns false s2 with|none=>some (s2,[])|some k=>if s2.take k=[]then none else some (s2.take k,s2.drop (k+1)):=rfl
  have hnl:=λn q (h:Ng s2=some (n,q))=>Gx h;have hcl:=λk (h:ns false s2=some k)=>Is false s2 k h;obtain⟨C,hC⟩:=V (ns false s2);rw[<-hC]at hnq hco hcl;clear hC;have HNQ:=F hnq;clear hnq;have S1:=F hnl;clear hnl;have xl:=F hcl;clear hcl;have HRR:=F hR;clear hR hst HR;have H6:=F h6;clear h6;have HL3:=F hl3;clear hl3 hl2;obtain⟨s,hs⟩:=V (E s2);have hsz:s.size=s2.length:=by rw[hs,aF]
  have hx1:∀ k,s.extract 0 k=E (s2.take k):=λk=>by rw[hs,cd,dP,pA]
  have hx2:∀ k,s.extract k s.size=E (s2.drop k):=λk=>by rw[hs,cd,aF,aP (by rw[aj];omega)]
  have HS:=F hs;rw[<-hs]at hco ⊢;have HCO:=F hco;clear hco hs;obtain⟨N,hN⟩:=V (s.size);have iP:s.size=N:=hN.symm;rw[iP]at hx2;have oP:N<=307200000:=by have:=HL3.o;omega
  have mc:N=s2.length:=M0;have TM:=F hx1;clear hx1;have TO:=F hx2;clear hx2;have xm:=F mc;clear mc hN hsz
  go_upto_if 45 with(first
   |(go_at_call 192;refine(HCO.o _).m ?_;rintro e w3 ⟨rfl,hw3⟩;subst hw3))
  go_cut [11,12] (λnv A wx=>∃ n q,Ng s2=some (n,q)/\nv=.string (E n)/\A=.string (E q)/\Hid (OB w1 (w.heap.size+1) 166 (bU {A0 with user:=u,pass:=p}) wx))
  case first =>
   cases C with
   |none =>
    have HQ:=F (show Ng s2=some (s2,[])from HNQ.o);have hm1:¬ (0:Int)<=-1:=M0;simp only[a0F];go_wp2_with fail
    go_meet
    case rel=>exact⟨s2,[],HQ.o,by rw[HS.o],rfl,H6.o⟩
   |some k =>
    have hlt:=xl.o k rfl;have hnq:Ng s2=if s2.take k=[]then none else some (s2.take k,s2.drop (k+1)):=HNQ.o;have e3:=TM.o k;have e4:=TO.o (k+1);have hn:((k:Int)+1)=((k+1:Nat):Int):=M0;have hkN:k+1<=N:=by have:=xm.o;omega
    have hwr:IntKind.i64.wrap ((k:Int)+1)=((k+1:Nat):Int):=by rw[hn];exact IntWalk.i64_in _ M0
    have hin2:(((k+1:Nat):Int))<=N:=M0;have hii:(k:Int)<=N:=M0;obtain⟨nm,hnm⟩:=V (E (s2.take k));obtain⟨qq,hqq⟩:=V (E (s2.drop (k+1)));have hre:nm.toList=[] ↔ s2.take k=[]:=by rw[hnm,aB]
    rw[<-hnm]at e3;rw[<-hqq]at e4;have mX:=F hnm;clear hnm;have HQQ:=F hqq;clear hqq;generalize s2.take k=n at hnq hre mX;generalize s2.drop (k+1)=q at hnq HQQ;generalize k+1=k1 at e4 hwr hin2 hkN;clear hn hlt;have a2n:=F hnq;clear hnq;simp only[a0F];by_cases hrn:n=[]
    ·have hst:=a2n.o
     rw[if_pos hrn]at hst;have he:=hre.mpr hrn;have he1:nm.toList.isEmpty=true:=by rw[he];rfl
     have hR:=HRR.o;rw[hst]at hR;have iT:=F (show R=none from hR);clear hst hR hre;go_wp2_with fail
     go_quiet (fail)
     have H62:=F<|H6.o.below (nO (n:=nq) (bg _));have Ew:=F<|H4.o.below (H62.o.bL)
     go_wp2_with (first
      |(refine Rv rfl (.tmp 4) (.tmp 55) rfl w w.heap.size A0 A0 Ew.o rfl rfl rfl rfl ?_;intro w8 i8;have Ex:=F i8;clear i8))
     exact NL rfl rfl Ex.o rfl (by rw[iT.o];rfl) (by rw[iT.o];rfl)
    have hst:=a2n.o;rw[if_neg hrn]at hst;have he:¬ nm.toList=[]:=λh=>hrn (hre.mp h);have he1:nm.toList.isEmpty=false:=by simpa using he
    have Hw:=F hst;clear hst hre;go_wp2_with fail
    go_quiet (fail)
    have H62:=F<|H6.o.below (nO (n:=nq) (bg _));go_wp2_with fail
    go_meet
    case rel=>exact⟨n,q,Hw.o,by rw[mX.o],by rw[HQQ.o],H62.o⟩
  case rest =>
   obtain⟨n,q,hst,rfl,rfl,h6⟩:=hcut;clear H6 HNQ xl TM TO HCO HS xm oP iP;have hnl:=S1.o n q hst;have hR:=HRR.o;rw[hst]at hR;replace hR:R=Ct aJ n q u p:=hR;have hl3:n.length<=307200000/\q.length<=307200000:=by have:=HL3.o;omega
   have hho:=λW (hW:r7 w W)=>vG n (eU aJ) W (HSH.o s2 u p n q Ny.o hst) (HE.o.below hW);have hpo:=λW=>ED.o q W M0;unfold Ct at hR;have h8:=λg (h:fm n (eU aJ)=some g)=>(od (hkind h)).l;generalize eU aJ=SP at *;obtain⟨HO,hHO⟩:=V (fm n SP);obtain⟨PO,hPO⟩:=V (Uc aJ q);rw[<-hHO]at hR hho h8;rw[<-hPO]at hR hpo;clear hHO hPO hst S1 HRR ED hnl hl3 HL3;obtain⟨nb,hnb⟩:=V (E n);obtain⟨qb,hqb⟩:=V (E q);rw[<-hnb]at hho ⊢;rw[<-hqb]at hpo ⊢;clear hnb hqb;have Hp:=F (show ∀W,r7 w1 W->r7 w W from λW hW=>dw H4.o.bL hW);have HP:=F hpo;clear hpo;have H6:=F h6;clear h6;cases HO with
   |none =>
    have HH:=F (show ∀W,r7 w W->bF prog 185 #[.string nb,.bool SP] W (.tuple #[.agg (aT H0),.bool false])from hho);have HR:=F (show R=none from hR);clear hho hR h8
    go_upto_region 17 with(first
     |(go_at_call 117;refine(ji.o _).m ?_;rintro e w3 ⟨rfl,hw3⟩;subst hw3)
     |(go_at_call 185;refine(HH.o _ (Hp.o _ H6.o.bL)).m ?_;rintro e w4 ⟨rfl,hb4⟩;have SU:=F<|H6.o.below hb4;clear hb4)
     |(refine aM rfl 32 rfl _ _ (qw _) ?_)
     |(refine AW rfl (.tmp 14) (.tmp 61) rfl H0 rfl rfl rfl rfl ?_;intro W2 hh U;have HHB:=F hh;have Ns:=F<|SU.o.below U;clear hh U))
    have Ew:=F<|H4.o.below (Ns.o.bL)
    go_wp2_with (first
     |(refine Rv rfl (.tmp 4) (.tmp 65) rfl w w.heap.size A0 A0 Ew.o rfl rfl rfl rfl ?_;intro w8 i8;have Ex:=F i8;clear i8))
    exact NL rfl rfl Ex.o rfl (by rw[HR.o];rfl) (by rw[HR.o];rfl)
   |some g =>
    have HH:=F (show ∀W,r7 w W->bF prog 185 #[.string nb,.bool SP] W (.tuple #[.agg (aT g),.bool true])from hho);have G8:=F<|h8 g rfl;clear hho h8;dsimp only at hR
    go_upto_region 17 with(first
     |(go_at_call 117;refine(ji.o _).m ?_;rintro e w3 ⟨rfl,hw3⟩;subst hw3)
     |(go_at_call 185;refine(HH.o _ (Hp.o _ H6.o.bL)).m ?_;rintro e w4 ⟨rfl,hb4⟩;have SU:=F<|H6.o.below hb4;clear hb4)
     |(refine aM rfl 32 rfl _ _ (qw _) ?_)
     |(refine AW rfl (.tmp 14) (.tmp 61) rfl g G8.o rfl rfl rfl ?_;intro W2 hh U;have HHB:=F hh;have Ns:=F<|SU.o.below U;clear hh U))
    clear H6 SU
    go_upto_region 20 with(first
     |(refine QN r5 (.tmp 14) rfl _ g HHB.o rfl ?_)
     |(refine Ma rfl 32 (.tmp 67) (.tmp 66) rfl w1 (w.heap.size+1) 166 (bU {A0 with user:=u,pass:=p}) Ns.o 2 (aS g) rfl rfl (by rw[fC rfl];simp[aS,G8.o]) (by rw[jb];simp[aS,G8.o]) jX (bU {A0 with user:=u,pass:=p,host:=g}) (NP {A0 with user:=u,pass:=p} g G8.o rfl) ?_;intro w5 i5;have WO:=F i5;clear i5))
    clear Ns HHB;cases PO with
    |none =>
     have HP:=F (show ∀W,bP prog 193 #[.string ss,.string qb] W (.tuple #[.int .i64 0,.bool false,.bool false])from HP.o);have HR:=F (show R=none from hR);clear hR
     go_upto_region 21 with(first
      |(go_at_call 193;refine(HP.o _).m ?_;rintro e w6 ⟨rfl,F4⟩;subst F4)
      |(refine ox rfl 3 (.tmp 75) (.tmp 72) rfl w1 (w.heap.size+1) 166 (bU {A0 with user:=u,pass:=p,host:=g}) WO.o 14 (.int .i64 0) rfl rfl (by rw[fC G8.o];decide) bY.2.1 rfl (bU {A0 with user:=u,pass:=p,host:=g,port:=0}) (BF {A0 with user:=u,pass:=p,host:=g} 0 G8.o) ?_;intro w7 i7 _ _;have Tl:=F i7;clear i7)
      |(refine ox rfl 4 (.tmp 76) (.tmp 73) rfl w1 (w.heap.size+1) 166 (bU {A0 with user:=u,pass:=p,host:=g,port:=0}) Tl.o 13 (.bool false) rfl rfl (by rw[fC G8.o];decide) bY.2.2 rfl (bU {A0 with user:=u,pass:=p,host:=g,port:=0,bz:=false}) (If {A0 with user:=u,pass:=p,host:=g,port:=0} false G8.o) ?_;intro w8 i8 _ _;have WP:=F i8;clear i8))
     have Ew:=F<|H4.o.below (WP.o.bL)
     go_wp2_with (first
      |(refine Rv rfl (.tmp 4) (.tmp 79) rfl w w.heap.size A0 A0 Ew.o rfl rfl rfl rfl ?_;intro w8 i8;have Ex:=F i8;clear i8))
     exact NL rfl rfl Ex.o rfl (by rw[HR.o];rfl) (by rw[HR.o];rfl)
    |some v =>
     obtain⟨v,b⟩:=v;have HP:=F (show ∀W,bP prog 193 #[.string ss,.string qb] W (.tuple #[.int .i64 v,.bool b,.bool true])from HP.o);have HR:=F (show R=some {A0 with user:=u,pass:=p,host:=g,port:=v,bz:=b}from hR);clear hR
     go_upto_region 21 with(first
      |(go_at_call 193;refine(HP.o _).m ?_;rintro e w6 ⟨rfl,F4⟩;subst F4)
      |(refine ox rfl 3 (.tmp 75) (.tmp 72) rfl w1 (w.heap.size+1) 166 (bU {A0 with user:=u,pass:=p,host:=g}) WO.o 14 (.int .i64 v) rfl rfl (by rw[fC G8.o];decide) bY.2.1 rfl (bU {A0 with user:=u,pass:=p,host:=g,port:=v}) (BF {A0 with user:=u,pass:=p,host:=g} v G8.o) ?_;intro w7 i7 _ _;have Tl:=F i7;clear i7)
      |(refine ox rfl 4 (.tmp 76) (.tmp 73) rfl w1 (w.heap.size+1) 166 (bU {A0 with user:=u,pass:=p,host:=g,port:=v}) Tl.o 13 (.bool b) rfl rfl (by rw[fC G8.o];decide) bY.2.2 rfl (bU {A0 with user:=u,pass:=p,host:=g,port:=v,bz:=b}) (If {A0 with user:=u,pass:=p,host:=g,port:=v} b G8.o) ?_;intro w8 i8 _ _;have WP:=F i8;clear i8))
     obtain⟨A1,hA1⟩:∃ A1:qj,A1={A0 with user:=u,pass:=p,host:=g,port:=v,bz:=b}:=⟨_,rfl⟩;have h18:A1.host.six.length=8:=by rw[hA1];exact G8.o
     rw[<-hA1]at WP;have HR2:=F (show R=some A1 by rw[hA1];exact HR.o);clear hA1 HR;have H18:=F h18;clear h18;have Ew:=F<|H4.o.below (WP.o.bL)
     go_wp2_with (first
      |(refine CF rfl 166 (.tmp 6) rfl w1 (w.heap.size+1) 166 (bU A1) WP.o _ rfl underlying166 rfl (by rw[fC H18.o];exact qy) ?_)
      |(refine Rv rfl (.tmp 4) (.tmp 80) rfl w w.heap.size A0 A1 Ew.o rfl H18.o rfl rfl ?_;intro w8 i8;have Ex:=F i8;clear i8))
     exact NL rfl rfl Ex.o H18.o (by rw[HR2.o];rfl) (by rw[HR2.o];rfl)

structure CB (W:H) (b:Nat) (T:TypeId) (cs:Array Z):Prop where
 a:W.heap[b]? = some (.cells cs T (0,0))
section
variable {W W':H} {b:Nat} {T:TypeId} {cs:Array Z}
theorem CB.lt(i:CB W b T cs):b<W.heap.size:=(bw.1 i.a).1
theorem CB.keep(i:CB W b T cs)(U:r7 W W'):CB W' b T cs:=⟨(U.block b i.lt).trans i.a⟩
theorem CB.new(W:H)(T:TypeId)(cs:Array Z):CB (W.alloc (.cells cs T)) W.heap.size T cs:=⟨heap_alloc_new W _⟩
theorem CB.cell(i:CB W b T cs)(j:Nat):W.cell? ⟨b,j,none⟩=cs[j]?:=by simp[World.cell?,i.a]
theorem CB.aE(i:CB W b T cs){j:Nat}{v:Z}(h:cs[j]? = some v):W.cell? ⟨b,j,none⟩=some v:=(i.cell j).trans h
theorem CB.range(i:CB W b T cs){o:Nat}{vs:List Z}(h:∀ j v,vs[j]? = some v->cs[o+j]? = some v):W.rangeAt b o vs:=λj v hj=>i.aE (h j v hj)
theorem CB.load{P:Program}(i:CB W b T cs)(ty:TypeId)(d:TypeDesc)(hu:P.underlying ty=some d)(hd:(match d with | .struct _ | .array _ _=>true|_=>false)=true)(hi:(P.info? ty).map (·.size)=some cs.size):(loadVar ty ⟨b,0,none⟩).run P W=.ok (.agg cs) W :=
 run_loadVar_row (P:=P) W b T ty cs (0,0) d i.a hu hd hi
end
section
variable {P:Program} {ops:Array Oper} {rest:List Oper} {o:Oper} {a:Act} {w:H} {Q:Exit->Act->H->Prop}
theorem jG{W:H}(hg:o.guard=none)(T:TypeId)(x y:Operand)(ho:o.op=.store T x y)(cs old:Array Z)(hi:(P.info? T).map (·.size)=some cs.size)(hold:old.size=cs.size)(Y:cs.all (·.oneCell')=true)
  (hW:W=w.alloc (.cells old T)) (X:a.eval x=.pointer (some ⟨w.heap.size,0,none⟩)) (hy:a.eval y=.agg cs)
  (k:∀ w',CB w' w.heap.size T cs->r7 w w'->wpList P ops Q rest (a.put o.dst undef) w'):wpList P ops Q (o::rest) a W:=by
 subst hW;exact gy hg T x y ho cs old T X hy hi hold Y (k _ (CB.new w T cs) ((Below.refl _ _).alloc (ag _) _))
theorem je(T:TypeId)(x:Operand)(ho:o.op=.load T x)(b:Nat)(cs:Array Z)(d:TypeDesc)(hu:P.underlying T=some d)(hd:(match d with | .struct _ | .array _ _=>true|_=>false)=true)(hi:(P.info? T).map (·.size)=some cs.size)
  (X:a.eval x=.pointer (some ⟨b,0,none⟩)) (i:CB w b T cs):(execOp a.eval o).run P w=.ok (.value (.agg cs)) w:=by
 have e:=i.load (P:=P) T d hu hd hi;unfold execOp;simp only[ho,X,Instr.loadAt,Instr.sureAddr,Sem.run_bind,Sem.run_pure,Result.andThen_ok,e]
theorem vR(hg:Region.wanted o (yielded ops a.tmps)=true)(T:TypeId)(x:Operand)(ho:o.op=.load T x)(b:Nat)(cs:Array Z)(d:TypeDesc)(hu:P.underlying T=some d)(hd:(match d with | .struct _ | .array _ _=>true|_=>false)=true)(hi:(P.info? T).map (·.size)=some cs.size)
  (X:a.eval x=.pointer (some ⟨b,0,none⟩)) (i:CB w b T cs) (k:wpList P ops Q rest (a.put o.dst (.agg cs)) w):wpList P ops Q (o::rest) a w :=
 nj hg (.agg cs) (je T x ho b cs d hu hd hi X i) k
theorem gU(T:TypeId)(x:Operand)(ho:o.op=.load T x)(b k:Nat)(vs:List Z)(d:TypeDesc)(hu:P.underlying T=some d)(hd:d.isRow=true)(hi:(P.info? T).map (·.size)=some vs.length)
  (X:a.eval x=.pointer (some ⟨b,k,none⟩)) (hr:w.rangeAt b k vs):(execOp a.eval o).run P w=.ok (.value (.agg vs.toArray)) w:=by
 have e:=run_loadVar_mid (P:=P) w b k T vs d hr hu hd hi;unfold execOp;simp only[ho,X,Instr.loadAt,Instr.sureAddr,Sem.run_bind,Sem.run_pure,Result.andThen_ok,e]
theorem bK(T:TypeId)(x:Operand)(ho:o.op=.load T x)(b k:Nat)(v:Z)(d:TypeDesc)(hu:P.underlying T=some d)(hd:(match d with | .struct _ | .array _ _=>true|_=>false)=false)
  (X:a.eval x=.pointer (some ⟨b,k,none⟩)) (hc:w.cell? ⟨b,k,none⟩=some v):(execOp a.eval o).run P w=.ok (.value v) w:=by
 have hagg:(isAgg T).run P w=.ok false w:=by
  unfold isAgg;rw[Sem.run_bind,run_underlying hu w];cases d <;>simp_all
 unfold execOp;simp only[ho,X,Instr.loadAt,Instr.sureAddr,Sem.run_bind,Sem.run_pure,Result.andThen_ok];have hl:(loadVar T ⟨b,k,none⟩).run P w=.ok v w:=by simp[loadVar,Sem.run_bind,hagg,hc]
 rw[hl];rfl
end
section
variable {ops:Array Oper} {rest:List Oper} {o:Oper} {a:Act} {w:H} {Q:Exit->Act->H->Prop}
theorem Sf{W:H}(hg:o.guard=none)(x y:Operand)(ho:o.op=.store 166 x y)(h:qj)(hl:h.host.six.length=8)(hW:W=w.alloc (.cells (bU A0) 166))(X:a.eval x=.pointer (some ⟨w.heap.size,0,none⟩))(hy:a.eval y=.agg (bU h))
  (k:∀ w',CB w' w.heap.size 166 (bU h)->r7 w w'->wpList prog ops Q rest (a.put o.dst undef) w'):wpList prog ops Q (o::rest) a W :=
 jG hg _ x y ho (bU h) (bU A0) (by rw[fC hl];exact qy) (by rw[fC hl];rfl) (all_oneCell_toArray Ig) hW X hy k
end
theorem ath_six{aJ l:O}:((kr aJ l).getD A0).host.six.length=8:=by
 cases h:kr aJ l with
 |none=>rfl
 |some a =>
  obtain⟨⟨n,hh,_⟩,_⟩:=Ih h;exact(od (hkind hh)).l

abbrev ai(A:Z)(u:Url):Array Z:=(cu A u).toArray
abbrev aI:Z:=.slice none 0 0
theorem iJ:(prog.info? 34).map (·.size)=some 23:=Rz
theorem oF{A:Z}{u:Url}(h:u.host.six.length=8):(cu A u).length=23:=by simp[cu,aS,h]
theorem kJ{A:Z}{u:Url}(h:u.host.six.length=8):(ai A u).size=23:=by rw[fZ,oF h]
theorem xe{A:Z}{u:Url}(Y:A.oneCell'=true):∀ v∈cu A u,v.oneCell'=true:=by
 intro v hv;simp only[cu,bO,aK,cV,or_false]at hv;rcases hv with((e|e|e)|e)|e|e|e|e|e|e|e|e|e
 all_goals first|exact jX v e|(rw[e];first|rfl|exact Y)
theorem eD(w:H):(Instr.alloc 34 true (Value.tuple #[])).run prog w=.ok (.pointer (some ⟨w.heap.size,0,none⟩)) (w.alloc (.cells (ai aI U0) 34)):=Rz
structure UAt (cs:Array Z) (A:Z) (u:Url):Prop where
 aJ:cs[0]? = some (S u.aJ)
 usr:cs[1]? = some (S u.usr)
 er:cs[2]? = some (S u.er)
 kind:cs[3]? = some (.int .i64 u.host.kind)
 name:cs[4]? = some (S u.host.name)
 bz:cs[14]? = some (.bool u.bz)
 port:cs[15]? = some (.int .i64 u.port)
 opq:cs[16]? = some (.bool u.opq)
 flat:cs[17]? = some (S u.flat)
 path:cs[18]? = some A
 bZ:cs[19]? = some (.bool u.bZ)
 q:cs[20]? = some (S u.q)
 cg:cs[21]? = some (.bool u.cg)
 f:cs[22]? = some (S u.f)
 host:∀ j v,(aS u.host)[j]? = some v->cs[3+j]? = some v
theorem ry(A:Z)(u:Url)(h:u.host.six.length=8):UAt (ai A u) A u:=by
 have hh:∀ j v,(aS u.host)[j]? = some v->(ai A u)[3+j]? = some v:=by
  intro j v hj;have hl:=(bh.1 hj).1;rw[cf];unfold cu;rw[bB,dB Oc,cX (by simp;omega)]
  simpa using hj
 obtain⟨aJ,usr,er,⟨hk,hn,hf,six⟩,a1,a2,a3,a4,a5,a6,a7,a8,a9⟩:=u;simp only at h;obtain⟨a,b,c,d,e,f,g,i,rfl⟩:=eight h;exact⟨rfl,rfl,rfl,rfl,rfl,rfl,rfl,rfl,rfl,rfl,rfl,rfl,rfl,rfl,hh⟩
structure a8z (A:Z) (u:Url):Prop where
 usr:∀ x,(ai A u).setIfInBounds 1 (S x)=ai A {u with usr:=x}
 er:∀ x,(ai A u).setIfInBounds 2 (S x)=ai A {u with er:=x}
 kind:∀ k,(ai A u).setIfInBounds 3 (.int .i64 k)=ai A {u with host:={u.host with kind:=k}}
 bz:∀ x,(ai A u).setIfInBounds 14 (.bool x)=ai A {u with bz:=x}
 port:∀ x,(ai A u).setIfInBounds 15 (.int .i64 x)=ai A {u with port:=x}
 opq:∀ x,(ai A u).setIfInBounds 16 (.bool x)=ai A {u with opq:=x}
 flat:∀ x,(ai A u).setIfInBounds 17 (S x)=ai A {u with flat:=x}
 path:∀ v l,(ai A u).setIfInBounds 18 v=ai v {u with path:=l}
 bZ:∀ x,(ai A u).setIfInBounds 19 (.bool x)=ai A {u with bZ:=x}
 q:∀ x,(ai A u).setIfInBounds 20 (S x)=ai A {u with q:=x}
 cg:∀ x,(ai A u).setIfInBounds 21 (.bool x)=ai A {u with cg:=x}
 f:∀ x,(ai A u).setIfInBounds 22 (S x)=ai A {u with f:=x}
theorem fO(A:Z)(u:Url)(h:u.host.six.length=8):a8z A u:=by
 obtain⟨aJ,usr,er,⟨hk,hn,hf,six⟩,a1,a2,a3,a4,a5,a6,a7,a8,a9⟩:=u;simp only at h;obtain⟨a,b,c,d,e,f,g,i,rfl⟩:=eight h;exact⟨λ_=>rfl,λ_=>rfl,λ_=>rfl,λ_=>rfl,λ_=>rfl,λ_=>rfl,λ_=>rfl,λ_ _=>rfl,λ_=>rfl,λ_=>rfl,λ_=>rfl,λ_=>rfl⟩
theorem sP(A:Z)(u:Url)(g:gF)(g8:g.six.length=8)(h8:u.host.six.length=8):ua (ai A u) 3 (aS g)=ai A {u with host:=g} :=
 rg (aS g) [S u.aJ,S u.usr,S u.er] (aS u.host) [.bool u.bz,.int .i64 u.port,.bool u.opq,S u.flat,A,.bool u.bZ,S u.q,.bool u.cg,S u.f] (by simp[aS,g8,h8])
section
variable {ops:Array Oper} {rest:List Oper} {o:Oper} {a:Act} {w:H} {Q:Exit->Act->H->Prop}
theorem fL{W:H}(hg:o.guard=none)(x y:Operand)(ho:o.op=.store 34 x y)(A:Z)(u:Url)(hl:u.host.six.length=8)(Y:A.oneCell'=true)(hW:W=w.alloc (.cells (ai aI U0) 34))(X:a.eval x=.pointer (some ⟨w.heap.size,0,none⟩))(hy:a.eval y=.agg (ai A u))
  (k:∀ w',CB w' w.heap.size 34 (ai A u)->r7 w w'->wpList prog ops Q rest (a.put o.dst undef) w'):wpList prog ops Q (o::rest) a W :=
 jG hg _ x y ho (ai A u) (ai aI U0) (by rw[kJ hl];exact iJ) (by rw[kJ hl];rfl) (all_oneCell_toArray (xe Y)) hW X hy k
theorem q8(x:Operand)(ho:o.op=.load 34 x)(b:Nat)(A:Z)(u:Url)(hl:u.host.six.length=8)(X:a.eval x=.pointer (some ⟨b,0,none⟩))(i:CB w b 34 (ai A u)):(execOp a.eval o).run prog w=.ok (.value (.agg (ai A u))) w :=
 je _ x ho b (ai A u) _ underlying34 rfl (by rw[kJ hl];exact iJ) X i
theorem cR(hg:Region.wanted o (yielded ops a.tmps)=true)(x:Operand)(ho:o.op=.load 34 x)(b:Nat)(A:Z)(u:Url)(hl:u.host.six.length=8)(X:a.eval x=.pointer (some ⟨b,0,none⟩))(i:CB w b 34 (ai A u))(k:wpList prog ops Q rest (a.put o.dst (.agg (ai A u))) w):wpList prog ops Q (o::rest) a w :=
 nj hg _ (q8 x ho b A u hl X i) k
end

theorem OI(c:Int):(fg c 10<0)=¬ (48<=c/\c<=57):=by
 have h:=Iy c;unfold fg at *;simp only at *;by_cases Y:48<=c/\c<=57
 ·rw[if_pos Y]at *
  simp[Y]
  split <;>omega
 rw[if_neg Y]at *;simp only[Y,not_false_eq_true,eq_iff_iff,iff_true]
 split <;>(try split) <;>(try split) <;>omega
theorem a0N{l:O}{k:Nat}(h:k<l.length):(l.drop k).all (λy=>pr (G y))=(pr (G l[k])&&(l.drop (k+1)).all (λy=>pr (G y))):=by
 rw[aC h,a4I]
theorem GD(l:O)(w:H)(hl:l.length<=1024000000):bP prog 77 #[.string (E l)] w (.bool (wH l)):=by
 obtain⟨s,hs⟩:=V (E l);have hsz:s.size=l.length:=by rw[hs,aF]
 have hby:∀ k (hk:k<s.size) (hk2:k<l.length),((s[k]'hk).toNat:Int)=G l[k]:=λk hk hk2=>cy hs hk hk2;have hemp:(s.toList=[]) ↔ l=[]:=by rw[hs,aB]
 rw[<-hs];clear hs;obtain⟨N,hN⟩:=V (s.size);have iP:s.size=N:=hN.symm;have oP:N<=1024000000:=M0;by_cases hnil:l=[]
 ·have he:=hemp.mpr hnil
  have he1:s.toList.isEmpty=true:=by rw[he];rfl
  have HR:=F (show wH l=false by rw[hnil];rfl);clear hemp hby hsz hl hN hnil;go_enter func77,ntmps77;go_wp2_with fail;go_ret;exact⟨by rw[HR.o];rfl,rfl⟩
 have he:¬ s.toList=[]:=λh=>hnil (hemp.mp h);have he1:s.toList.isEmpty=false:=by simpa using he
 have hpos:0<l.length:=eo.mpr hnil;have Nd:0<s.size:=M0;have hx0:=hby 0 Nd hpos
 have hsn:wH l=(iQ (G l[0])&&(l.drop 1).all λy=>pr (G y)):=by
  cases l with
  |nil=>cases hpos
  |cons c t=>rfl
 have h0N:(0:Int)<N:=M0;rw[iP]at Nd;obtain⟨X',hX⟩:=V (G l[0]);rw[<-hX]at hx0 hsn;obtain⟨R,hR⟩:=V ((l.drop 1).all λy=>pr (G y));rw[<-hR]at hsn;have TA:=F<|λW=>kD X' W;have iV:=F hby;have eM:=F hsz;have HR:=F hR;have mY:=F hsn;clear hemp hby hsz hl hN hnil hpos hX hR hsn;cases hq:iQ X' with
 |false =>
  rw[hq]at TA mY;go_enter func77,ntmps77
  go_wp2_with (first|(go_at_call 115;refine(TA.o _).m ?_;rintro e w2 ⟨rfl,hw⟩;subst hw))
  go_ret;exact⟨by rw[mY.o];rfl,rfl⟩
 |true =>
  rw[hq]at TA mY;go_enter func77,ntmps77
  go_wp2_with (first|(go_at_call 115;refine(TA.o _).m ?_;rintro e w2 ⟨rfl,hw⟩;subst hw))
  obtain⟨w3,hw3⟩:=V (w2);have HW:=F hw3;rw[<-hw3];clear hw3
  go_loopw [3] (λiv wr=>∃ (k:Nat),1<=k/\k<=N/\iv=.int .i64 k/\Hid ((l.drop k).all (λy=>pr (G y))=R)/\w3=wr) (λi _=>N-(intOf i).toNat)
  case atStart=>exact⟨1,M0,M0,Oc,HR.o.symm,rfl⟩
  case round =>
   obtain⟨k,hk1,hk,rfl,hd,rfl⟩:=hrel;by_cases hlt:k<N
   ·have mf:k<s.size:=by omega
    have hkl:k<l.length:=by have:=eM.o;omega
    have X:=iV.o k mf hkl;have hst:=a0N hkl;rw[hd.o]at hst;have hr:=jL l[k];have hle:=λW=>kD (G l[k]) W;have hda:=λW=>dm (G l[k]) 10 W hr M0;have hdg:=OI (G l[k]);obtain⟨Y',hY⟩:=V (G l[k]);rw[<-hY]at X hst hle hda hr hdg;clear hY hd;obtain⟨D,hD⟩:=V (fg Y' 10);rw[<-hD]at hda hdg;clear hD;have rN:=F hda;clear hda;have iS:=F hle;clear hle;obtain⟨T,hT⟩:=V ((l.drop (k+1)).all λy=>pr (G y));rw[<-hT]at hst;have TL:=F hT;clear hT;unfold pr at hst;cases hq2:iQ Y' with
    |true =>
     rw[hq2]at hst iS;have HST:=F (show R=T by rw[hst];simp);clear hst hdg
     go_wp2_with (first|(go_at_call 115;refine(iS.o _).m ?_;rintro e w4 ⟨rfl,hw⟩;subst hw))
     go_roundw
     case rel=>exact⟨k+1,M0,M0,Oc,(TL.o.symm.trans HST.o.symm),by trivial⟩
     case measure=>simp[intOf];omega
    |false =>
     rw[hq2]at hst iS;by_cases hdig:48<=Y'/\Y'<=57
     ·have hD:¬ D<0:=by rw[hdg];simp[hdig]
      have HST:=F (show R=T by rw[hst];simp[hdig]);clear hst hdg hdig
      go_wp2_with (first
       |(go_at_call 115;refine(iS.o _).m ?_;rintro e w4 ⟨rfl,hw⟩;subst hw)
       |(go_at_call 90;refine(rN.o _).m ?_;rintro e w5 ⟨rfl,rfl⟩))
      go_roundw
      case rel=>exact⟨k+1,M0,M0,Oc,(TL.o.symm.trans HST.o.symm),by trivial⟩
      case measure=>simp[intOf];omega
     have hD:D<0:=by rw[hdg];exact hdig
     by_cases h3:Y'=43\/Y'=45\/Y'=46
     ·have HST:=F (show R=T by rw[hst];rcases h3 with h|h|h <;>simp[h])
      clear hst hdg hdig;rcases h3 with rfl|rfl|rfl
      all_goals
       go_wp2_with (first
        |(go_at_call 115;refine(iS.o _).m ?_;rintro e w4 ⟨rfl,hw⟩;subst hw)
        |(go_at_call 90;refine(rN.o _).m ?_;rintro e w5 ⟨rfl,rfl⟩))
       go_roundw
       case rel=>exact⟨k+1,M0,M0,Oc,(TL.o.symm.trans HST.o.symm),by trivial⟩
       case measure=>simp[intOf];omega
     have HST:=F (show R=false by rw[hst];simp[hdig];intro h;exact absurd h h3);have e1:(Y' != 43)=true:=by simpa using λh=>h3 (.inl h)
     have e2:(Y' != 45)=true:=by simpa using λh=>h3 (.inr (.inl h))
     have e3:(Y' != 46)=true:=by simpa using λh=>h3 (.inr (.inr h))
     clear hst hdg hdig h3
     go_wp2_with (first
      |(go_at_call 115;refine(iS.o _).m ?_;rintro e w4 ⟨rfl,hw⟩;subst hw)
      |(go_at_call 90;refine(rN.o _).m ?_;rintro e w5 ⟨rfl,rfl⟩))
     go_ret;exact⟨by rw[mY.o,HST.o];rfl,HW.o⟩
   obtain rfl:k=N:=M0;have hdr:l.drop k=[]:=bE (by have:=eM.o;omega);have hd1:=hd.o;rw[hdr]at hd1;have HST:=F (show true=R from hd1);clear hd1 hd;go_wp2_with fail;go_ret;exact⟨by rw[mY.o,<-HST.o];rfl,HW.o⟩

theorem E6(c:UInt8)(n:Nat)(h:n<256):(c==UInt8.ofNat n)=decide (G c=n):=by
 have e:G (UInt8.ofNat n)=n:=by
  unfold G;rw[fB];omega
 rw[bX,beq_iff_eq,decide_eq_true_eq];exact⟨λh=>by rw[h,e],λh=>eX (h.trans e.symm)⟩
theorem ym(a b:UInt8):dJ [a,b]=(iQ (G a)&&(decide (G b=58)||decide (G b=124))):=by
 show(iQ (G a)&&(b==58||b==124))=_;rw[show(b==58)=decide (G b=58)from E6 b 58 P8,show(b==124)=decide (G b=124)from E6 b 124 P8]
theorem Q0(a b:UInt8):jN [a,b]=(iQ (G a)&&decide (G b=58)):=by
 show(iQ (G a)&&b==58)=_;rw[show(b==58)=decide (G b=58)from E6 b 58 P8]
theorem He{l:O}(h:l.length=2):∃ a b,l=[a,b]:=by
 match l,h with
 | [a,b],_=>exact⟨a,b,rfl⟩
theorem qL{l:O}(h:l.length≠2):dJ l=false/\jN l=false:=by
 match l,h with
 | [],_=>exact⟨rfl,rfl⟩
 | [_],_=>exact⟨rfl,rfl⟩
 | [_,_],h=>exact absurd rfl h
 |_::_::_::_,_=>exact⟨rfl,rfl⟩
theorem oM(l:O)(w:H)(hl:l.length<=1024000000):bP prog 184 #[.string (E l)] w (.bool (dJ l)):=by
 obtain⟨s,hs⟩:=V (E l);have hsz:s.size=l.length:=by rw[hs,aF]
 have hby:∀ k (hk:k<s.size) (hk2:k<l.length),((s[k]'hk).toNat:Int)=G l[k]:=λk hk hk2=>cy hs hk hk2;rw[<-hs];clear hs;by_cases I:l.length=2
 ·obtain⟨a,b,rfl⟩:=He I
  have iP:s.size=2:=hsz;have h0:0<s.size:=M0;have Y:1<s.size:=M0;have hx0:((s[0]'h0).toNat:Int)=G a:=hby 0 h0 (b1p _);have hx1:((s[1]'Y).toNat:Int)=G b:=hby 1 Y (bV 1);have hd:=ym a b;have iS:=F<|λW=>kD (G a) W;generalize G a=X' at *;generalize G b=Y' at *;obtain⟨R,hR⟩:=V (dJ [a,b]);rw[<-hR]at hd ⊢;clear hby hsz I hR hl;cases hq:iQ X' with
  |false =>
   rw[hq]at iS hd;have HD:=F hd;clear hd;go_enter func184,ntmps184
   go_wp2_with (first|(go_at_call 115;refine(iS.o _).m ?_;rintro e w2 ⟨rfl,hw⟩;subst hw))
   go_ret;exact⟨by rw[HD.o];rfl,rfl⟩
  |true =>
   rw[hq]at iS hd;by_cases FQ:Y'=58
   ·have HD:=F (show R=true by rw[hd];simp[FQ]);clear hd
    subst FQ;go_enter func184,ntmps184
    go_wp2_with (first|(go_at_call 115;refine(iS.o _).m ?_;rintro e w2 ⟨rfl,hw⟩;subst hw))
    go_ret;exact⟨by rw[HD.o];rfl,rfl⟩
   have q58:(Y'==58)=false:=by simpa using FQ
   by_cases UW:Y'=124
   ·have HD:=F (show R=true by rw[hd];simp[UW]);clear hd
    subst UW;go_enter func184,ntmps184
    go_wp2_with (first|(go_at_call 115;refine(iS.o _).m ?_;rintro e w2 ⟨rfl,hw⟩;subst hw))
    go_ret;exact⟨by rw[HD.o];rfl,rfl⟩
   have b46:(Y'==124)=false:=by simpa using UW
   have HD:=F (show R=false by rw[hd];simp[FQ,UW]);clear hd;go_enter func184,ntmps184
   go_wp2_with (first|(go_at_call 115;refine(iS.o _).m ?_;rintro e w2 ⟨rfl,hw⟩;subst hw))
   go_ret;exact⟨by rw[HD.o];rfl,rfl⟩
 have HD:=F (qL I).1;obtain⟨N,hN⟩:=V (s.size);have iP:s.size=N:=hN.symm
 have hn:((N:Int)==2)=false:=by
  have:(N:Int)≠2:=M0
  simpa using this
 clear hby I hsz hl hN;go_enter func184,ntmps184;go_wp2_with fail;go_ret;exact⟨by rw[HD.o];rfl,rfl⟩
theorem p4(l:O)(w:H)(hl:l.length<=1024000000):bP prog 151 #[.string (E l)] w (.bool (jN l)):=by
 have hdr:=λW=>oM l W hl;obtain⟨s,hs⟩:=V (E l);have hsz:s.size=l.length:=by rw[hs,aF]
 have hby:∀ k (hk:k<s.size) (hk2:k<l.length),((s[k]'hk).toNat:Int)=G l[k]:=λk hk hk2=>cy hs hk hk2;rw[<-hs]at hdr ⊢;clear hs;have HDR:=F hdr;clear hdr;by_cases I:l.length=2
 ·obtain⟨a,b,rfl⟩:=He I
  have iP:s.size=2:=hsz;have Y:1<s.size:=M0;have hx1:((s[1]'Y).toNat:Int)=G b:=hby 1 Y (bV 1);have hd:=ym a b;have hn:=Q0 a b;rw[hd]at HDR;generalize G a=X' at *;generalize G b=Y' at *;obtain⟨R,hR⟩:=V (jN [a,b]);rw[<-hR]at hn ⊢;clear hby hsz I hR hl hd;generalize iQ X'=q at *;by_cases FQ:Y'=58
  ·subst FQ
   have HN:=F (show R=q by rw[hn];simp);clear hn;cases q
   all_goals
    go_enter func151,ntmps151
    go_wp2_with (first|(go_at_call 184;refine(HDR.o _).m ?_;rintro e w2 ⟨rfl,hw⟩;subst hw))
    go_ret;exact⟨by rw[HN.o];rfl,rfl⟩
  have q58:(Y'==58)=false:=by simpa using FQ
  have HN:=F (show R=false by rw[hn];simp[FQ]);clear hn;obtain⟨r,hr⟩:=V ((q&&(decide (Y'=58)||decide (Y'=124))));rw[<-hr]at HDR;clear hr FQ;cases r
  all_goals
   go_enter func151,ntmps151
   go_wp2_with (first|(go_at_call 184;refine(HDR.o _).m ?_;rintro e w2 ⟨rfl,hw⟩;subst hw))
   go_ret;exact⟨by rw[HN.o];rfl,rfl⟩
 rw[(qL I).1]at HDR;have HN:=F (qL I).2;clear hby I hsz hl;go_enter func151,ntmps151
 go_wp2_with (first|(go_at_call 184;refine(HDR.o _).m ?_;rintro e w2 ⟨rfl,hw⟩;subst hw))
 go_ret;exact⟨by rw[HN.o];rfl,rfl⟩

theorem zh{l:O}(h:l.length<2\/dJ (l.take 2)=false):fx l=false:=by
 match l,h with
 | [],_=>rfl
 | [_],_=>rfl
 | [a,b],h =>
  rcases h with h|h
  ·simp at h
  exact h
 |a::b::c::r,h =>
  rcases h with h|h
  ·simp at h;omega
  show(dJ [a,b]&&_)=false;rw[show dJ [a,b]=false from h];rfl
theorem G6{l:O}(h:l.length=2)(hd:dJ (l.take 2)=true):fx l=true:=by
 obtain⟨a,b,rfl⟩:=He h;exact hd
theorem DQ{l:O}(h:2<l.length)(hd:dJ (l.take 2)=true):fx l=iO [47,92,63,35] (G (l[2]'h)):=by
 match l,h,hd with
 |a::b::c::r,_,hd =>
  show(dJ [a,b]&&(c==47||c==92||c==63||c==35))=iO [47,92,63,35] (G c);rw[show dJ [a,b]=true from hd,Ev];have key:∀ k:Fin 256,(UInt8.ofNat k.val==47||UInt8.ofNat k.val==92||UInt8.ofNat k.val==63||UInt8.ofNat k.val==35)=iO [47,92,63,35] (G (UInt8.ofNat k.val)):=by decide +kernel
  have:=key ⟨c.toNat,c.toNat_lt⟩
  simpa using this
theorem wP(l:O)(w:H)(hl:l.length<=1024000000):bP prog 152 #[.string (E l)] w (.bool (fx l)):=by
 have hdr:=λW=>oM (l.take 2) W (by rw[aD];omega);obtain⟨s,hs⟩:=V (E l);have hsz:s.size=l.length:=by rw[hs,aF]
 have hby:∀ k (hk:k<s.size) (hk2:k<l.length),((s[k]'hk).toNat:Int)=G l[k]:=λk hk hk2=>cy hs hk hk2;have hex:s.extract 0 2=E (l.take 2):=by rw[hs];exact nY l 2
 rw[<-hs];clear hs;obtain⟨N,hN⟩:=V (s.size);have iP:s.size=N:=hN.symm;have mc:N=l.length:=M0;obtain⟨t,ht⟩:=V (E (l.take 2));rw[<-ht]at hdr hex;by_cases I:N<2
 ·have HR:=F<|zh (l:=l) (.inl M0)
  clear hby hex hdr ht hN hsz hl mc;go_enter func152,ntmps152;go_wp2_with fail;go_ret;exact⟨by rw[HR.o];rfl,rfl⟩
 have h2i:(2:Int)<=N:=M0;have HDR:=F hdr;clear hdr;cases hd:dJ (l.take 2)with
 |false =>
  rw[hd]at HDR;have HR:=F<|zh (l:=l) (.inr hd);clear hby ht hN hsz hl mc hd;go_enter func152,ntmps152
  go_wp2_with (first|(go_at_call 184;refine(HDR.o _).m ?_;rintro e w2 ⟨rfl,hw⟩;subst hw))
  go_ret;exact⟨by rw[HR.o];rfl,rfl⟩
 |true =>
  rw[hd]at HDR;by_cases hq:N=2
  ·have HR:=F<|G6 (l:=l) M0 hd
   have hqb:((N:Int)==2)=true:=by rw[hq];rfl
   clear hby ht hN hsz hl mc hd;subst hq;go_enter func152,ntmps152
   go_wp2_with (first|(go_at_call 184;refine(HDR.o _).m ?_;rintro e w2 ⟨rfl,hw⟩;subst hw))
   go_ret;exact⟨by rw[HR.o];rfl,rfl⟩
  have h3:2<l.length:=M0;have h3s:2<s.size:=M0;have X:=hby 2 h3s h3;have hr:=DQ h3 hd;obtain⟨x,nB⟩:=V (l[2]);rw[<-nB]at X hr;have hib:=λW=>Any.strings_IndexByte laysIB ⟨#[47,92,63,35]⟩ (G x) W;rw[show(⟨#[47,92,63,35]⟩:ByteArray).data.toList=[47,92,63,35]from rfl,show(G x).toNat.toUInt8=x by simp[G]]at hib;have FV:∀ W,bP prog 75 #[.string ⟨#[47,92,63,35]⟩,.int .u8 (G x)] W (.int .i64 (Lib.indexByte [47,92,63,35] x)):=hib;have hi:=oe [47,92,63,35] x;generalize Lib.indexByte [47,92,63,35] x=I' at FV hi;rw[<-hr]at hi;generalize fx l=R at hi ⊢;generalize G x=X' at *;have EB:=F FV
  have hqb:((N:Int)==2)=false:=by
   have:(N:Int)≠2:=M0
   simpa using this
  have h3i:(2:Int)<N:=M0;have h3n:2<N:=M0;clear hby ht hN hsz hl mc hd hib FV hr nB;cases R with
  |true =>
   have hI:0<=I':=hi.mpr rfl;clear hi;go_enter func152,ntmps152
   go_wp2_with (first
    |(go_at_call 184;refine(HDR.o _).m ?_;rintro e w2 ⟨rfl,hw⟩;subst hw)
    |(go_at_call 75;refine(EB.o _).m ?_;rintro e w3 ⟨rfl,hw⟩;subst hw))
   go_ret;exact⟨eA Oc,rfl⟩
  |false =>
   have hI:¬ 0<=I':=λh=>by have:=hi.mp h;cases this
   clear hi;go_enter func152,ntmps152
   go_wp2_with (first
    |(go_at_call 184;refine(HDR.o _).m ?_;rintro e w2 ⟨rfl,hw⟩;subst hw)
    |(go_at_call 75;refine(EB.o _).m ?_;rintro e w3 ⟨rfl,hw⟩;subst hw))
   go_ret;exact⟨eA (by simp;omega),rfl⟩
theorem Vy:∀ k:Fin 256,(dK (UInt8.ofNat k.val)=37 ↔ UInt8.ofNat k.val=37)/\(dK (UInt8.ofNat k.val)=50 ↔ UInt8.ofNat k.val=50)/\(dK (UInt8.ofNat k.val)=101 ↔ (UInt8.ofNat k.val=101\/UInt8.ofNat k.val=69)):=by decide +kernel
theorem QS(c:UInt8):(dK c=37 ↔ c=37)/\(dK c=50 ↔ c=50)/\(dK c=101 ↔ (c=101\/c=69)):=by
 have:=Vy ⟨c.toNat,c.toNat_lt⟩
 simpa using this
theorem N5(l:O):im l=if l.head? = some 46 then some (l.drop 1)else if 3<=l.length/\(l.take 3).map dK=[37,50,101]then some (l.drop 3)else none:=by
 match l with
 | []=>rfl
 |c::t =>
  by_cases h46:c=46
  ·subst h46
   rw[E4,if_pos r5];rfl
  rw[if_neg (by simpa using h46)]
  match t with
  | [] =>
   rw[if_neg Oc];unfold im;dsimp only;rw[if_neg h46]
   split
   ·next h=>cases h
   rfl
  | [x] =>
   rw[if_neg Oc];unfold im;dsimp only;rw[if_neg h46]
   split
   ·next h=>cases h
   rfl
  |x::y::r =>
   have e:((c::x::y::r).take 3).map dK=[dK c,dK x,dK y]:=rfl;rw[e];obtain⟨k1,_,_⟩:=QS c;obtain⟨_,k2,_⟩:=QS x;obtain⟨_,_,k3⟩:=QS y;by_cases h37:c=37
   ·by_cases h50:x=50
    ·subst h37;subst h50
     rw[oK];by_cases hy:y=101\/y=69
     ·rw[if_pos hy,if_pos ⟨Oc,by rw[k1.mpr rfl,k2.mpr rfl,k3.mpr hy]⟩]
      rfl
     rw[if_neg hy,if_neg (λh=>hy (k3.mp (by injection h.2 with _ h;injection h with _ h;injection h)))]
    subst h37;rw[nM h50,if_neg (λh=>h50 (k2.mp (by injection h.2 with _ h;injection h)))]
   rw[kf h46 h37,if_neg (λh=>h37 (k1.mp (by injection h.2)))]
theorem Io(l:O)(w:H)(hl:l.length<=1024000000):bF prog 212 #[.string (E l)] w (.tuple #[S ((im l).getD []),.bool (im l).isSome]):=by
 have rH:=λW=>mE l [46] W;rw[show E [46]=⟨#[46]⟩from rfl]at rH
 have a4u:Lib.hasPrefix l [46]=decide (l.head? = some 46):=by
  cases l with
  |nil=>rfl
  |cons x r =>
   show((46==x)&&true)=_;rw[nk,bX];simp only[beq_iff_eq,oI,ly,decide_eq_true_eq];exact eq_comm
 rw[a4u]at rH;have hlow:=λW=>ik (l.take 3) W (by unfold maxLen;rw[aD];omega);have hbi:=N5 l;obtain⟨R,hR⟩:=V (im l);rw[<-hR]at hbi ⊢;obtain⟨s,hs⟩:=V (E l);have hsz:s.size=l.length:=by rw[hs,aF]
 have a4b:s.extract 0 3=E (l.take 3):=by rw[hs];exact nY l 3
 have hd1:s.extract 1 s.size=E (l.drop 1):=by rw[hs];exact gn l 1 _ (aF l)
 have hd3:s.extract 3 s.size=E (l.drop 3):=by rw[hs];exact gn l 3 _ (aF l)
 rw[<-hs]at rH ⊢;clear hs a4u hR;obtain⟨N,hN⟩:=V (s.size);have iP:s.size=N:=hN.symm;rw[iP]at hd1 hd3;have mc:N=l.length:=M0;obtain⟨t,ht⟩:=V (E (l.take 3));rw[<-ht]at a4b hlow
 have hne:l.head? = some 46->1<=N:=λh=>by
  cases l with
  |nil=>cases h
  |cons c r=>rw[mc];simp
 rw[<-mc]at hbi;generalize (l.take 3).map dK=m at hbi hlow;generalize l.drop 1=d1 at hbi hd1;generalize l.drop 3=d3 at hbi hd3;obtain⟨q,hq⟩:∃ q:Prop,q=(l.head? = some 46):=⟨_,rfl⟩;rw[<-hq]at hne;have tS:=F rH;have TC:=F (show ∀W,bF prog 32 #[.string t] W (S m)from hlow);by_cases h46:l.head? = some 46
 ·rw[if_pos h46]at hbi
  rw[decide_eq_true h46]at tS;have hN1:1<=N:=hne (hq▸h46);have UY:(1:Int)<=N:=M0;have HR:=F hbi;clear rH hbi hlow ht hN hsz hl mc hq hne h46 a4b hd3;go_enter func212,ntmps212
  go_wp2_with (first|(go_at_call 61;refine(tS.o _).m ?_;rintro e w2 ⟨rfl,hw⟩;subst hw))
  go_ret2
  exact⟨by rw[HR.o];rfl,bg _⟩
 rw[if_neg h46]at hbi;rw[decide_eq_false h46]at tS;clear rH hlow ht hN hsz hl mc hq hne h46 hd1;by_cases h3:3<=N
 ·have h3i:(3:Int)<=N:=by omega
  have he:=rI m [37,50,101];by_cases hm:m=[37,50,101]
  ·rw[if_pos ⟨h3,hm⟩]at hbi
   rw[decide_eq_true hm]at he;have HR:=F hbi;clear hbi hm;rw[aB,aB]at he;have he2:((E m).toList == [37,50,101])=true:=by rw[aB];exact he
   obtain⟨z,hz⟩:=V (E m);rw[<-hz]at he2;replace TC:=F (show ∀W,bF prog 32 #[.string t] W (.string z)from by rw[hz];exact TC.o);clear hz he;go_enter func212,ntmps212
   go_wp2_with (first
    |(go_at_call 61;refine(tS.o _).m ?_;rintro e w2 ⟨rfl,hw⟩;subst hw)
    |(go_at_call 32;refine(TC.o _).m ?_;rintro e w3 ⟨rfl,U⟩;have HB:=F U;clear U))
   go_ret2
   exact⟨by rw[HR.o];rfl,HB.o⟩
  rw[if_neg (λh=>hm h.2)]at hbi;rw[decide_eq_false hm]at he;have HR:=F hbi;clear hbi hm;rw[aB,aB]at he;have he2:((E m).toList == [37,50,101])=false:=by rw[aB];exact he
  obtain⟨z,hz⟩:=V (E m);rw[<-hz]at he2;replace TC:=F (show ∀W,bF prog 32 #[.string t] W (.string z)from by rw[hz];exact TC.o);clear hz he;go_enter func212,ntmps212
  go_wp2_with (first
   |(go_at_call 61;refine(tS.o _).m ?_;rintro e w2 ⟨rfl,hw⟩;subst hw)
   |(go_at_call 32;refine(TC.o _).m ?_;rintro e w3 ⟨rfl,U⟩;have HB:=F U;clear U))
  go_ret2
  exact⟨by rw[HR.o];rfl,HB.o⟩
 rw[if_neg (λh=>h3 h.1)]at hbi;have HR:=F hbi;clear hbi;go_enter func212,ntmps212
 go_wp2_with (first
  |(go_at_call 61;refine(tS.o _).m ?_;rintro e w2 ⟨rfl,hw⟩;subst hw))
 go_ret2
 exact⟨by rw[HR.o];rfl,bg _⟩
theorem IC(l:O)(w:H)(hl:l.length<=1024000000):bF prog 189 #[.string (E l)] w (.bool (kC l)):=by
 have U:=λW=>Io l W hl;obtain⟨R,hR⟩:=V (kC l);rw[<-hR];unfold kC at hR;generalize E l=s at *;generalize im l=b at *;cases b with
 |none =>
  have HB:=F (show ∀W,bF prog 212 #[.string s] W (.tuple #[.string ⟨#[]⟩,.bool false])from U);have HR:=F (show R=false from hR);clear U hR;go_enter func189,ntmps189
  go_wp2_with (first|(go_at_call 212;refine(HB.o _).m ?_;rintro e w2 ⟨rfl,U⟩;have HW:=F U;clear U))
  go_ret;exact⟨by rw[HR.o];rfl,HW.o⟩
 |some r =>
  obtain⟨z,hz⟩:=V (E r);have HB:=F (show ∀W,bF prog 212 #[.string s] W (.tuple #[.string z,.bool true])from by rw[hz];exact U);have hze:z.toList=[] ↔ r=[]:=by rw[hz,aB]
  have hRr:R=decide (r=[]):=by
   rw[hR,bX,decide_eq_true_eq];simp
  clear U hR hz;by_cases hn:r=[]
  ·have he:=hze.mpr hn
   have he1:z.toList.isEmpty=true:=by rw[he];rfl
   have HR:=F (show R=true by rw[hRr,decide_eq_true hn]);clear hze hRr hn;go_enter func189,ntmps189
   go_wp2_with (first|(go_at_call 212;refine(HB.o _).m ?_;rintro e w2 ⟨rfl,U⟩;have HW:=F U;clear U))
   go_ret;exact⟨by rw[HR.o];rfl,HW.o⟩
  have he:¬ z.toList=[]:=λh=>hn (hze.mp h);have he1:z.toList.isEmpty=false:=by simpa using he
  have HR:=F (show R=false by rw[hRr,decide_eq_false hn]);clear hze hRr hn;go_enter func189,ntmps189
  go_wp2_with (first|(go_at_call 212;refine(HB.o _).m ?_;rintro e w2 ⟨rfl,U⟩;have HW:=F U;clear U))
  go_ret;exact⟨by rw[HR.o];rfl,HW.o⟩
theorem Ug{l r:O}(h:im l=some r):r.length<=l.length:=by
 rw[N5]at h
 split at h
 ·injection h with h
  rw[<-h,aj];omega
 split at h
 ·injection h with h
  rw[<-h,aj];omega
 cases h
theorem OQ(l:O)(w:H)(hl:l.length<=1024000000):bF prog 187 #[.string (E l)] w (.bool (jC l)):=by
 have U:=λW=>Io l W hl;have hln:=λr (h:im l=some r)=>Ug h;obtain⟨R,hR⟩:=V (jC l);rw[<-hR];unfold jC at hR;generalize E l=s at *;generalize im l=b at *;cases b with
 |none =>
  have HB:=F (show ∀W,bF prog 212 #[.string s] W (.tuple #[.string ⟨#[]⟩,.bool false])from U);have HR:=F (show R=false from hR);clear U hR hln;go_enter func187,ntmps187
  go_wp2_with (first|(go_at_call 212;refine(HB.o _).m ?_;rintro e w2 ⟨rfl,U⟩;have HW:=F U;clear U))
  go_ret;exact⟨by rw[HR.o];rfl,HW.o⟩
 |some r =>
  have hdo:=λW=>IC r W (by have:=hln r rfl;omega);obtain⟨z,hz⟩:=V (E r);have HB:=F (show ∀W,bF prog 212 #[.string s] W (.tuple #[.string z,.bool true])from by rw[hz];exact U);rw[<-hz]at hdo;have HD:=F hdo;have HR:=F (show R=kC r from hR);clear U hR hz hdo hln;generalize kC r=q at HD HR;go_enter func187,ntmps187
  go_wp2_with (first
   |(go_at_call 212;refine(HB.o _).m ?_;rintro e w2 ⟨rfl,U⟩;have HW:=F U;clear U)
   |(go_at_call 189;refine(HD.o _).m ?_;rintro e w3 ⟨rfl,U⟩;have HW3:=F<|dw HW.o U;clear U))
  go_ret;exact⟨by rw[HR.o];rfl,HW3.o⟩

theorem a5s{sp:Bool}{l:O}{k:Nat}(h:k<l.length):uE sp (l.drop k)=if lS sp l[k]=true then 1+uE sp (l.drop (k+1))else 0:=by
 unfold uE;rw[aC h];cases hp:lS sp l[k]with
 |true=>rw[bJ hp,if_pos rfl,ah];omega
 |false=>rw[bI (by simp[hp]),if_neg Oc];rfl
theorem AT(sp:Bool)(l:O):uE sp l<=l.length:=(List.takeWhile_sublist _).length_le
theorem k9(aJ l:O)(w:H)(hl:l.length<=1024000000):bP prog 149 #[.string (E aJ),.string (E l)] w (.int .i64 (uE (eU aJ) l)):=by
 have hsp:=λW=>gl aJ W;generalize eU aJ=sp at *;generalize E aJ=c at *;have ji:=F hsp;clear hsp;obtain⟨R,hR⟩:=V (uE sp l);rw[<-hR];have HR:=F hR;clear hR;obtain⟨s,hs⟩:=V (E l);have hsz:s.size=l.length:=by rw[hs,aF]
 have hby:∀ k (hk:k<s.size) (hk2:k<l.length),((s[k]'hk).toNat:Int)=G l[k]:=λk hk hk2=>cy hs hk hk2;rw[<-hs];clear hs;obtain⟨N,hN⟩:=V (s.size);have iP:s.size=N:=hN.symm;have oP:N<=1024000000:=M0;have iV:=F hby;clear hby;have eM:=F hsz;clear hsz hl hN;go_enter func149,ntmps149
 go_wp2_with (first|(go_at_call 117;refine(ji.o _).m ?_;rintro e w2 ⟨rfl,hw⟩;subst hw))
 obtain⟨w3,hw3⟩:=V (w2);have HW:=F hw3;rw[<-hw3];clear hw3
 go_loopw [6] (λiv wr=>∃ k:Nat,k<=N/\iv=.int .i64 k/\Hid (k+uE sp (l.drop k)=R)/\w3=wr) (λi _=>N-(intOf i).toNat)
 case atStart=>exact⟨0,M0,Oc,(by rw[HR.o];show 0+uE sp (List.drop 0 l)=_;simp),rfl⟩
 case round =>
  obtain⟨k,hk,rfl,hd,rfl⟩:=hrel;by_cases hlt:k<N
  ·have mf:k<s.size:=by omega
   have hkl:k<l.length:=by have:=eM.o;omega
   have X:=iV.o k mf hkl;have hst:=a5s (sp:=sp) hkl;rw[slP_b]at hst;have hd1:=hd.o;obtain⟨T,hT⟩:=V (uE sp (l.drop (k+1)));rw[<-hT]at hst;have HT:=F hT;clear hT;obtain⟨X',hX⟩:=V (G l[k]);rw[<-hX]at X hst;clear hX hd;by_cases h47:X'=47
   ·subst h47
    have HN:=F (show k+1+T=R by rw[if_pos Oc]at hst;omega);clear hst hd1;go_wp2_with fail;go_roundw
    case rel=>exact⟨k+1,M0,Oc,(by rw[<-HT.o];exact HN.o),by trivial⟩
    case measure=>simp[intOf];omega
   have q47:(X'==47)=false:=by simpa using h47
   cases sp with
   |false =>
    have HN:=F (show k=R by rw[if_neg (by simp[h47])]at hst;omega);clear hst hd1;go_wp2_with fail;go_ret;exact⟨by rw[<-HN.o];rfl,HW.o⟩
   |true =>
    by_cases Px:X'=92
    ·subst Px
     have HN:=F (show k+1+T=R by rw[if_pos Oc]at hst;omega);clear hst hd1;go_wp2_with fail;go_roundw
     case rel=>exact⟨k+1,M0,Oc,(by rw[<-HT.o];exact HN.o),by trivial⟩
     case measure=>simp[intOf];omega
    have q92:(X'==92)=false:=by simpa using Px
    have HN:=F (show k=R by rw[if_neg (by simp[h47,Px])]at hst;omega);clear hst hd1;go_wp2_with fail;go_ret;exact⟨by rw[<-HN.o];rfl,HW.o⟩
  obtain rfl:k=N:=M0;have hdr:l.drop k=[]:=bE (by have:=eM.o;omega);have hd1:=hd.o;rw[hdr]at hd1;have HN:=F (show k=R from hd1);clear hd1 hd;go_wp2_with fail;go_ret;exact⟨by rw[<-HN.o];rfl,HW.o⟩
theorem pL(aJ l:O)(w:H)(hl:l.length<=1024000000):bP prog 121 #[.string (E aJ),.string (E l)] w (S (l.drop (uE (eU aJ) l))):=by
 have hsl:=λW=>k9 aJ l W hl;have hle:=AT (eU aJ) l;generalize uE (eU aJ) l=k at *;generalize E aJ=c at *;obtain⟨s,hs⟩:=V (E l);have hsz:s.size=l.length:=by rw[hs,aF]
 have hex:s.extract k s.size=E (l.drop k):=by rw[hs];exact gn l k _ (aF l)
 rw[<-hs]at hsl ⊢;clear hs;obtain⟨N,hN⟩:=V (s.size);have iP:s.size=N:=hN.symm;rw[iP]at hex;obtain⟨t,ht⟩:=V (E (l.drop k));rw[<-ht]at hex;have HT:=F ht;have HSL:=F hsl;have hki:(k:Int)<=N:=M0;have hkn:k<=N:=M0;clear hsl hsz hl hle hN ht;go_enter func121,ntmps121
 go_wp2_with (first|(go_at_call 149;refine(HSL.o _).m ?_;rintro e w2 ⟨rfl,hw⟩;subst hw))
 go_ret;exact⟨by rw[HT.o];rfl,rfl⟩
theorem RV{sp:Bool}{p:O}(h:∀ y∈p,lS sp y=false){c:UInt8}(hc:lS sp c=true)(t:O):gE sp (p++c::t)=p::gE sp t:=by
 induction p with
 |nil=>rw[dg,gE,if_pos hc]
 |cons x r ih =>
  rw[dE,gE,if_neg (by rw[h x Oc];simp),ih (λy hy=>h y (by simp[hy]))]
theorem DG(sp:Bool):∀ l:O,(gE sp l).length<=l.length+1
 | []=>by simp[gE]
 |c::t=>by
  have:=DG sp t;rw[gE]
  split
  ·simp;omega
  split
  ·simp
  next h=>rw[h]at this;simp at this ⊢;omega
theorem Jo{l:O}{f k:Nat}{y:UInt8}(h:y∈(l.drop f).take (k-f)):∃ j,∃hj:j<l.length,f<=j/\j<k/\l[j]=y:=by
 obtain⟨i,hi,he⟩:=cC h;rw[aD,aj]at hi;rw[M8,M7]at he;exact⟨f+i,M0,M0,M0,he⟩
theorem GZ(l:O)(sp:Bool)(w:H)(hl:l.length<=1024000000):Calls prog 186 #[.string (E l),.bool sp] w (ga w 9 (Strs (gE sp l))):=by
 obtain⟨i1,hi1,hz1,hz2,hz3⟩:=info_parts lT;obtain⟨T,hT⟩:=V (gE sp l);rw[<-hT];have HT:=F hT;clear hT;obtain⟨s,hs⟩:=V (E l);have hsz:s.size=l.length:=by rw[hs,aF]
 have hby:∀ k (hk:k<s.size) (hk2:k<l.length),((s[k]'hk).toNat:Int)=G l[k]:=λk hk hk2=>cy hs hk hk2;have hex:∀ f k,s.extract f k=E ((l.drop f).take (k-f)):=λf k=>by rw[hs,cd]
 rw[<-hs];clear hs;obtain⟨N,hN⟩:=V (s.size);have iP:s.size=N:=hN.symm;have oP:N<=1024000000:=M0;have iV:=F hby;clear hby;have MU:=F hex;clear hex;have eM:=F hsz;clear hsz hl hN;go_enter func186,ntmps186;go_wp2_with fail
 go_loopw [5,6,7] (λov fv iv wr=>∃ (k f:Nat) (o:List O),k<=N/\f<=k/\o.length<=k/\iv=.int .i64 k/\fv=.int .i64 f/\Hid (wr.ownsRow w.heap.size 9 1 ov o.length (Strs o))/\Hid (o++gE sp (l.drop f)=T/\∀ j (hj:j<l.length),f<=j->j<k->lS sp l[j]=false)/\Hid (r7 w wr)) (λ_ _ i _=>N-(intOf i).toNat)
 case atStart=>exact⟨0,0,[],M0,M0,Oc,Oc,Oc,World.ownsRow_nil _ _ _ _,⟨by rw[HT.o];rfl,λj _ _ h=>absurd h (cL j)⟩,Below.refl _ _⟩
 case round =>
  obtain⟨k,f,o,hk,hfk,hol,rfl,rfl,HO,hinv,HB⟩:=hrel;have hwz:w.heap.size<=wr.heap.size:=HB.o.size;obtain⟨al,hal⟩:=V (o.length);have ho:=HO.o;rw[<-hal]at ho hol;have eJ:=F ho;clear ho HO;have mW:=F hal;clear hal;by_cases hlt:k<N
  ·have mf:k<s.size:=by omega
   have hkl:k<l.length:=by have:=eM.o;omega
   have X:=iV.o k mf hkl;obtain⟨ZL,ZM⟩:=hinv.o;have U:=@slP_b sp l[k]
   have hmiss:lS sp l[k]=false->(o++gE sp (l.drop f)=T/\∀ j (hj:j<l.length),f<=j->j<k+1->lS sp l[j]=false):=λh=>⟨ZL,λj hj Y I=>by
    rcases cI j k with h3|h3
    ·exact ZM j hj Y h3
    obtain rfl:j=k:=M0;exact h⟩
   obtain⟨p,hp⟩:=V ((l.drop f).take (k-f))
   have hhit:lS sp l[k]=true->((o++[p])++gE sp (l.drop (k+1))=T/\∀ j (hj:j<l.length),k+1<=j->j<k+1->lS sp l[j]=false):=λh=>by
    refine⟨?_,λj _ Y I=>M0⟩
    have e:l.drop f=p++l[k]::l.drop (k+1):=by
     rw[hp,<-List.drop_eq_getElem_cons hkl];have:l.drop k=(l.drop f).drop (k-f):=by rw[qg];congr 1;omega
     rw[this,cT]
    have hs:=RV (sp:=sp) (p:=p) (λy hy=>by
     rw[hp]at hy;obtain⟨j,hj,Y,I,rfl⟩:=Jo hy;exact ZM j hj Y I) h (l.drop (k+1))
    rw[<-e]at hs;rw[<-ZL,hs];simp
   have a4c:=MU.o f k;rw[<-hp]at a4c;have hsn:=jg o p;obtain⟨u,hu⟩:=V (E p);rw[<-hu]at a4c hsn;rw[U]at hmiss hhit;obtain⟨X',hX⟩:=V (G l[k]);rw[<-hX]at X hmiss hhit;have xN:=F hmiss;have J4:=F hhit;have mY:=F hsn;have hfs:f<=s.size:=M0;have a9u:(f:Int)<=k:=M0;have b4F:(k:Int)<=N:=M0;have hw1:IntKind.i64.wrap ((k:Int)+1)=((k+1:Nat):Int):=by rw[show(k:Int)+1=((k+1:Nat):Int) by omega];exact IntWalk.i64_in _ M0
   obtain⟨K,hK⟩:=V (k+1);rw[<-hK]at hw1;have HK:=F hK;clear hinv ZL ZM U hmiss hhit hp hsn hu hX hK;by_cases h47:X'=47
   ·subst h47
    have HS:=F<|J4.o Oc;clear xN J4
    go_wp2_with (first|(at_builtin;(refine et rfl (.tmp 27) (.tmp 32) _ rfl w.heap.size 9 i1 (.string ⟨#[]⟩) 16 underlying22 hi1 hz1 hz2 hz3 P8 _ _ _ (Strs o) rfl eJ.o (.string u) rfl rfl M0 P8 M0 ?_);intro v2 w2 hown2 hw2 hb2;have Kc:=F hown2;clear hown2;have HB2:=F hb2;clear hb2))
    go_roundw
    case rel =>
     have hke:=HK.o;subst hke;refine⟨k+1,k+1,o++[p],M0,M0,by rw[ae,<-mW.o];simp;omega,r5,r5,?_,HS.o,HB.o.trans HB2.o⟩;show World.ownsRow _ _ _ _ _ _ _;rw[mY.o,ae,<-mW.o];exact Kc.o
    case measure=>have:=HK.o;simp[intOf];omega
   have q47:(X'==47)=false:=by simpa using h47
   cases sp with
   |false =>
    have HS:=F<|xN.o (by simp[h47]);clear xN J4;go_wp2_with fail;go_roundw
    case rel =>
     have hke:=HK.o;subst hke;exact⟨k+1,f,o,M0,M0,by rw[<-mW.o];omega,r5,r5,by rw[<-mW.o];exact eJ.o,HS.o,HB.o⟩
    case measure=>have:=HK.o;simp[intOf];omega
   |true =>
    by_cases Px:X'=92
    ·subst Px
     have HS:=F<|J4.o Oc;clear xN J4
     go_wp2_with (first|(at_builtin;(refine et rfl (.tmp 27) (.tmp 32) _ rfl w.heap.size 9 i1 (.string ⟨#[]⟩) 16 underlying22 hi1 hz1 hz2 hz3 P8 _ _ _ (Strs o) rfl eJ.o (.string u) rfl rfl M0 P8 M0 ?_);intro v2 w2 hown2 hw2 hb2;have Kc:=F hown2;clear hown2;have HB2:=F hb2;clear hb2))
     go_roundw
     case rel =>
      have hke:=HK.o;subst hke;refine⟨k+1,k+1,o++[p],M0,M0,by rw[ae,<-mW.o];simp;omega,r5,r5,?_,HS.o,HB.o.trans HB2.o⟩;show World.ownsRow _ _ _ _ _ _ _;rw[mY.o,ae,<-mW.o];exact Kc.o
     case measure=>have:=HK.o;simp[intOf];omega
    have q92:(X'==92)=false:=by simpa using Px
    have HS:=F<|xN.o (by simp[h47,Px]);clear xN J4;go_wp2_with fail;go_roundw
    case rel =>
     have hke:=HK.o;subst hke;exact⟨k+1,f,o,M0,M0,by rw[<-mW.o];omega,r5,r5,by rw[<-mW.o];exact eJ.o,HS.o,HB.o⟩
    case measure=>have:=HK.o;simp[intOf];omega
  obtain rfl:k=N:=M0;have hex:=MU.o f k;have hln:(l.drop f).take (k-f)=l.drop f:=aP (by rw[aj];have:=eM.o;omega);rw[hln]at hex;obtain⟨Y,I⟩:=hinv.o
  have hpc:gE sp (l.drop f)=[l.drop f]:=GT (λy hy=>by
   have hy2:y∈(l.drop f).take (k-f):=by rw[hln];exact hy
   obtain⟨j,hj,h3,h4,rfl⟩:=Jo hy2;exact I j hj h3 h4)
  rw[hpc]at Y;have hsn:=jg o (l.drop f);rw[Y]at hsn;obtain⟨u,hu⟩:=V (E (l.drop f));rw[<-hu]at hex hsn;have mY:=F hsn;have zF:=F (show T.length=al+1 by rw[<-Y,ae,<-mW.o];rfl);have hfs:f<=s.size:=M0;have a9u:(f:Int)<=k:=M0;clear hinv Y I hpc hsn hu hln mW
  go_wp2_with (first|(at_builtin;(refine et rfl (.tmp 36) (.tmp 40) _ rfl w.heap.size 9 i1 (.string ⟨#[]⟩) 16 underlying22 hi1 hz1 hz2 hz3 P8 _ _ _ (Strs o) rfl eJ.o (.string u) rfl rfl M0 P8 M0 ?_);intro v2 w2 hown2 hw2 hb2;have Kc:=F hown2;clear hown2;have HB2:=F hb2;clear hb2))
  go_ret;refine⟨_,rfl,?_,HB.o.trans HB2.o⟩;rw[ay,zF.o,mY.o];exact Kc.o

theorem LW:∀ k:Fin 256,(xq 0 (UInt8.ofNat k.val)).all (λy=>!k6 0 (G y)&&(y==UInt8.ofNat k.val||y==37||(decide (48<=G y/\G y<=57)||decide (65<=G y/\G y<=70))))=true:=by decide +kernel
theorem Ay{l:O}{y:UInt8}(h:y∈dD 0 l):k6 0 (G y)=false/\(y∈l\/y=37\/(48<=G y/\G y<=57)\/(65<=G y/\G y<=70)):=by
 obtain⟨x,X,hy⟩:=S8.mp h;have hf:=LW ⟨x.toNat,x.toNat_lt⟩;simp only[dN]at hf;have:=ch.mp hf y hy;simp only[ct,kj,a3W,beq_iff_eq,decide_eq_true_eq]at this;obtain⟨Y,I⟩:=this;refine⟨Y,?_⟩;rcases I with(I|I)|I|I
 ·exact .inl (I▸X)
 ·exact .inr (.inl I)
 ·exact .inr (.inr (.inl I))
 exact .inr (.inr (.inr I))
theorem a0A{l:O}{c:UInt8}(hc:c≠37/\¬ (48<=G c/\G c<=57)/\¬ (65<=G c/\G c<=70))(h:c∉l):c∉dD 0 l:=λhm=>by
 rcases(Ay hm).2 with Y|Y|Y|Y
 ·exact h Y
 ·exact hc.1 Y
 ·exact hc.2.1 Y
 exact hc.2.2 Y
theorem Rk{l:O}(h:l.head? ≠ some 47):(dD 0 l).head? ≠ some 47:=by
 cases l with
 |nil=>exact h
 |cons c t =>
  rw[gw];unfold xq
  split
  ·simp
  simpa using h
def lf(fl:O)(x:Bool):O:=if x=true/\fl.getLast? = some 32 then fl.dropLast++[37,50,48]else fl
theorem Rl{l:O}(h:l.getLast? ≠ some 32):(dD 0 l).getLast? ≠ some 32:=by
 cases hl:l.getLast? with
 |none =>
  have:l=[]:=List.getLast?_eq_none_iff.mp hl;subst this;simp[dD]
 |some c =>
  obtain⟨r,rfl⟩:=a2Q.mp hl;have e:dD 0 (r++[c])=dD 0 r++xq 0 c:=by unfold dD;simp
  rw[e];have key:∀ k:Fin 256,UInt8.ofNat k.val≠32->(xq 0 (UInt8.ofNat k.val)).getLast?.isSome=true/\(xq 0 (UInt8.ofNat k.val)).getLast? ≠ some 32:=by decide +kernel
  have hk:=key ⟨c.toNat,c.toNat_lt⟩;simp only[dN]at hk;have hk:=hk (λe=>h (by rw[hl,e]));obtain⟨y,hy⟩:=a6t.mp hk.1;rw[Bh,hy];intro I
  apply hk.2
  rw[hy]
  simpa using I
theorem Ob(fl:O)(a b:Bool):(if(a=true\/b=true)/\fl.getLast? = some 32 then fl.dropLast++[37,50,48]else fl)=lf fl (a||b):=by
 unfold lf;simp only[kj]
theorem GA{p:kW}{u:Url}(hp:sX p)(hs:xU p.aJ)(hsp:eU p.aJ=false)(h:gi p=some u):Good u:=by
 have hd:=qS hp p.aJ;have hnf:p.aJ≠aR:=λe=>by rw[e,vn]at hsp;cases hsp
 unfold gi at h;dsimp only at h
 split at h
 ·exact qx hp hs hnf h
 ·injection h with h
  subst h;exact⟨hs,hd.q,hd.qe,hd.f,hd.fe,iG ra,fu (gp _),λ_=>rfl,.none rfl hsp rfl ⟨rfl,rfl,rfl,rfl⟩ j6⟩
 next n1 n2 =>
 rw[Ob]at h;injection h with h
 subst h
 have h47:p.rest.head? ≠ some 47:=by
  intro e;cases hr:p.rest with
  |nil=>rw[hr]at e;cases e
  |cons c t =>
   rw[hr]at e;injection e with e
   subst e;exact n2 t hr
 have hmem:∀ c:UInt8,c≠37/\¬ (48<=G c/\G c<=57)/\¬ (65<=G c/\G c<=70)->c∉p.rest->c∉lf (dD 0 p.rest) (p.bZ||p.cg):=by
  intro c hc hn hm;have h0:=a0A hc hn;unfold lf at hm
  split at hm
  ·rcases bO.mp hm with hm|hm
   ·exact h0 (nI _ hm)
   simp only[aK,cV,or_false]at hm;rcases hm with rfl|rfl|rfl
   ·exact hc.1 rfl
   ·exact hc.2.1 P8
   exact hc.2.1 P8
  exact h0 hm
 have hall:∀ y∈lf (dD 0 p.rest) (p.bZ||p.cg),k6 0 (G y)=false:=by
  intro y hy;unfold lf at hy
  split at hy
  ·rcases bO.mp hy with hy|hy
   ·exact(Ay (nI _ hy)).1
   simp only[aK,cV,or_false]at hy;rcases hy with rfl|rfl|rfl <;>decide
  exact(Ay hy).1
 have hhd:(lf (dD 0 p.rest) (p.bZ||p.cg)).head? ≠ some 47:=by
  have h0:=Rk h47;unfold lf
  split
  ·intro e
   cases hd:(dD 0 p.rest).dropLast with
   |nil=>rw[hd]at e;simp at e
   |cons c t =>
    rw[hd]at e
    apply h0
    cases hq:dD 0 p.rest with
    |nil=>rw[hq]at hd;cases hd
    |cons c2 t2 =>
     rw[hq]at hd;cases t2 with
     |nil=>cases hd
     |cons d r =>
      injection hd with Y I
      rw[Y];exact e
  exact h0
 have hla:(lf (dD 0 p.rest) (p.bZ||p.cg)).getLast? ≠ some 32:=by
  unfold lf
  split
  ·rw[Bh];simp
  next hn =>
  intro e;cases Te:(p.bZ||p.cg)with
  |true=>exact hn ⟨Te,e⟩
  |false =>
   rw[Bc]at Te;exact Rl (hp.e Te.1 Te.2) e
 exact⟨hs,hd.q,hd.qe,hd.f,hd.fe,ra,gp _,λh=>(by cases h),.opq rfl hsp rfl rfl ⟨rfl,rfl,rfl,rfl⟩ (Az hall) hhd hla ⟨hmem 35 P8 hp.r.1,hmem 63 P8 hp.r.2⟩⟩
theorem K0{b:Url}{p:kW}{u:Url}(U:Good b)(ho:b.opq=true)(h:k5 b p=some u):Good u:=by
 unfold k5 at h
 split at h
 ·cases h
 injection h with h
 subst h
 have hbd:Body {b with cg:=true,f:=dD 1 p.f}:=by
  cases U.body with
  |opq Y I h3 h4 h5 h7 h8 h9 h10=>exact .opq Y I h3 h4 ⟨h5.u,h5.p,h5.h,h5.n⟩ h7 h8 h9 h10
  |none Y=>rw[ho]at Y;cases Y
  |file Y=>rw[ho]at Y;cases Y
  |asked Y=>rw[ho]at Y;cases Y
 exact⟨U.aJ,U.q,U.qe,λh=>(by cases h),vj enc1 p.f,U.pc,U.fi,U.fl,hbd⟩
theorem oY{b v:Url}(U:Good b)(ho:b.opq=false)(hnf:b.aJ≠aR)(e0:v.aJ=b.aJ)(e1:v.usr=b.usr)(e2:v.er=b.er)(e3:v.host=b.host)(e4:v.bz=b.bz)(e5:v.port=b.port)(e6:v.opq=false)(hp:v.path ≠ []\/v.path=b.path):Body v:=by
 have hpp:b.path ≠ []->v.path ≠ []:=λh=>hp.elim id (λe=>e▸h);have a9l:Ie v=Ie b:=by unfold Ie;rw[e1,e2,e3,e4,e5]
 cases U.body with
 |opq Y=>rw[ho]at Y;cases Y
 |none Y I h3 h5 hq=>exact .none e6 (by rw[e0];exact I) (by rw[e3];exact h3) ⟨by rw[e1];exact h5.u,by rw[e2];exact h5.p,by rw[e4];exact h5.h,by rw[e5];exact h5.n⟩ (hpp hq)
 |file Y hs=>exact absurd hs hnf
 |asked Y hs ha hq=>exact .asked e6 (by rw[e0];exact hs) (by rw[a9l,e0];exact ha) (λh=>hpp (hq (by rw[<-e0];exact h)))
theorem RL{b:Url}{p:kW}{u:Url}(U:Good b)(hp:sX p)(ho:b.opq=false)(hnf:b.aJ≠aR)(h:ri b p=some u):Good u:=by
 have hd:=qS hp b.aJ;unfold ri at h;dsimp only at h
 split at h
 ·exact qx hp U.aJ hnf h
 split at h
 ·exact qx hp U.aJ hnf h
 split at h
 ·injection h with h
  subst h;exact⟨U.aJ,hd.q,hd.qe,hd.f,hd.fe,iG ra,fu (gp _),λ_=>rfl,oY U ho hnf rfl rfl rfl rfl rfl rfl rfl (.inl j6)⟩
 split at h
 ·injection h with h
  subst h;unfold fM
  split
  ·exact⟨U.aJ,hd.q,hd.qe,hd.f,hd.fe,U.pc,U.fi,λ_=>rfl,oY U ho hnf rfl rfl rfl rfl rfl rfl rfl (.inr rfl)⟩
  exact⟨U.aJ,U.q,U.qe,hd.f,hd.fe,U.pc,U.fi,λ_=>rfl,oY U ho hnf rfl rfl rfl rfl rfl rfl rfl (.inr rfl)⟩
 injection h with h
 subst h;exact⟨U.aJ,hd.q,hd.qe,hd.f,hd.fe,iG (λx X=>U.pc x (kh X)),fu (kZ U.fi),λ_=>rfl,oY U ho hnf rfl rfl rfl rfl rfl rfl rfl (.inl j6)⟩
theorem yF{b:Url}{p:kW}{u:Url}(U:Good b\/(b=U0/\p.gR=true))(hp:sX p)(h:eL b p=some u):Good u:=by
 have hU:¬ Good b->p.gR=true:=λhn=>U.elim (λg=>absurd g hn) (λe=>e.2);unfold eL at h
 split at h
 ·refine KW hp (λe=>?_) h
  rcases U with g|⟨e1,_⟩
  ·exact g
  rw[e1]at e;cases e
 next Y =>
 split at h
 ·next I=>exact qx hp (hp.s I.1.1) (λe=>Y (.inl ⟨I.1.1,e⟩)) h
 next I =>
 split at h
 ·next h3=>exact GA hp (hp.s h3.1) (by simpa using h3.2) h
 next h3 =>
 have g:Good b:=by
  rcases U with g|⟨e1,e2⟩
  ·exact g
  exfalso;by_cases hs:eU p.aJ=true
  ·refine I ⟨⟨e2,hs⟩,.inl (λe=>?_)⟩
   rw[e1]at e;rw[e]at hs;revert hs;decide
  exact h3 ⟨e2,hs⟩
 split at h
 ·next h4=>exact K0 g h4 h
 next h4 =>
 have ho:b.opq=false:=by simpa using h4
 refine RL g hp ho (λe=>?_) h;cases hq:p.gR with
 |false=>exact Y (.inr ⟨hq,ho,e⟩)
 |true =>
  by_cases hs:eU p.aJ=true
  ·by_cases he:p.aJ=b.aJ
   ·exact Y (.inl ⟨hq,he.trans e⟩)
   exact I ⟨⟨hq,hs⟩,.inl he⟩
  exact h3 ⟨hq,hs⟩
theorem wy{b u:Url}{s:O}(U:Good b)(h:kF b s=some u):Good u:=yF (.inl U) (Ru s) h
theorem kG{u:Url}{s:O}(h:eF s=some u):Good u:=by
 unfold eF at h
 split at h
 ·next hs=>exact yF (.inr ⟨rfl,hs⟩) (Ru s) h
 cases h

def P0:kW:=⟨false,[],[],false,[],false,[]⟩
abbrev aW(p:kW):Array Z:=#[.bool p.gR,S p.aJ,S p.rest,.bool p.bZ,S p.q,.bool p.cg,S p.f]
theorem mO:(prog.info? 79).map (·.size)=some 7:=Rz
theorem a27(w:H):(Instr.alloc 79 true (Value.tuple #[])).run prog w=.ok (.pointer (some ⟨w.heap.size,0,none⟩)) (w.alloc (.cells (aW P0) 79)):=Rz
theorem Ju{p:kW}:∀ v∈(aW p).toList,v.oneCell'=true:=by
 intro v hv;simp only[aK,cV,or_false]at hv;rcases hv with e|e|e|e|e|e|e <;>(rw[e];rfl)
theorem Rj{tmps:Array Z}{w w2:H}{b:Nat}{p:kW}(I:tmps.getD 2 undef=.pointer (some ⟨b,0,none⟩))(i:OB w b 79 (aW p) w2){R:kW}(hR:p=R) :
  bodyPost prog f46 (λe w'=>e=.returned (.agg (aW R))/\r7 w w') Exit.ret {tmps:=tmps,defers:=[]} w2:=by
 subst hR;have h2':tmps[2]?.getD undef=.pointer (some ⟨b,0,none⟩):=by simpa using I
 have hl:=i.load (P:=prog) 79 _ underlying79 rfl mO;refine bodyPost_ret (v:=.agg (aW p)) ?_ rfl ⟨rfl,i.bL⟩;simp[results,results46,asAddr,h2',hl]
theorem fD(c:UInt8)(s:O):(bQ c s).1.length<=s.length/\(bQ c s).2.1.length<=s.length:=by
 have h:=congrArg List.length (mn c s);rw[ae]at h;by_cases hf:(bQ c s).2.2=true
 ·rw[if_pos hf,ah]at h
  omega
 rw[gm c s (by simpa using hf)];simp only[aO];omega
theorem za(s:O)(w:H)(hl:s.length<=1024000000)(hE:Env w):bF prog 46 #[.string (E s)] w (.agg (aW (fw s))):=by
 have hsf:fw s=if(bQ 58 (bQ 63 (bQ 35 s).1).1).2.2=true/\wH (bQ 58 (bQ 63 (bQ 35 s).1).1).1=true then⟨true,(bQ 58 (bQ 63 (bQ 35 s).1).1).1.map dK,(bQ 58 (bQ 63 (bQ 35 s).1).1).2.1,(bQ 63 (bQ 35 s).1).2.2,(bQ 63 (bQ 35 s).1).2.1,(bQ 35 s).2.2,(bQ 35 s).2.1⟩else⟨false,[],(bQ 63 (bQ 35 s).1).1,(bQ 63 (bQ 35 s).1).2.2,(bQ 63 (bQ 35 s).1).2.1,(bQ 35 s).2.2,(bQ 35 s).2.1⟩:=rfl;obtain⟨R,hR⟩:=V (fw s);rw[<-hR];rw[<-hR]at hsf;clear hR;have l1:=fD 35 s;have k1:=λ(W:H) (hW:r7 w W)=>gK s [35] W hl (hE.below hW);rw[yI]at k1;generalize bQ 35 s=C1 at *;obtain⟨a,f,hf⟩:=C1;simp only at hsf l1 k1;have l2:=fD 63 a;have k2:=λ(W:H) (hW:r7 w W)=>gK a [63] W M0 (hE.below hW);rw[yI]at k2;generalize bQ 63 a=C2 at *;obtain⟨b,q,hq⟩:=C2;simp only at hsf l2 k2;have l3:=fD 58 b;have k3:=λ(W:H) (hW:r7 w W)=>gK b [58] W M0 (hE.below hW);rw[yI]at k3;generalize bQ 58 b=C3 at *;obtain⟨c,d,hc⟩:=C3;simp only at hsf l3 k3;have kn:=λW=>GD c W M0;have kl:=λW=>ik c W (by unfold maxLen;omega);generalize wH c=sn at hsf kn;obtain⟨S0,hS0⟩:=V (E s);obtain⟨SA,hSA⟩:=V (E a);obtain⟨SB,hSB⟩:=V (E b);obtain⟨SC,hSC⟩:=V (E c);have K1:=F (show ∀W,r7 w W->bF prog 63 #[.string S0,.string ⟨#[35]⟩] W (.tuple #[.string SA,S f,.bool hf])from by rw[hS0,hSA];exact k1);have K2:=F (show ∀W,r7 w W->bF prog 63 #[.string SA,.string ⟨#[63]⟩] W (.tuple #[.string SB,S q,.bool hq])from by rw[hSA,hSB];exact k2);have K3:=F (show ∀W,r7 w W->bF prog 63 #[.string SB,.string ⟨#[58]⟩] W (.tuple #[.string SC,S d,.bool hc])from by rw[hSB,hSC];exact k3);have KN:=F (show ∀W,bP prog 77 #[.string SC] W (.bool sn)from by rw[hSC];exact kn);have KL:=F (show ∀W,bF prog 32 #[.string SC] W (S (c.map dK))from by rw[hSC];exact kl);have HSB:=F hSB;rw[<-hS0];have YE:=F hsf;clear k1 k2 k3 kn kl hS0 hSA hSB hSC l1 l2 l3 hsf hl hE;generalize c.map dK=cl at *;go_enter func46,ntmps46
 go_upto_region 2 with(first
  |(refine aM rfl 79 rfl _ _ (a27 _) ?_))
 have h4:=OB.fresh w 79 (aW P0);obtain⟨w1,hw1⟩:=V (w.alloc (.cells (aW P0) 79));rw[<-hw1]at h4 ⊢;have hz1:w1.heap.size=w.heap.size+1:=by rw[hw1];simp
 have h6:=OB.fresh w1 79 (aW P0);rw[hz1]at h6
 try rw[hz1]
 have H4:=F h4;clear h4;clear hw1;obtain⟨w2,hw2⟩:=V (w1.alloc (.cells (aW P0) 79));rw[<-hw2]at h6 ⊢;clear hw2;have H6:=F h6;clear h6;have Hp:=F (show ∀W,r7 w1 W->r7 w W from λW hW=>dw H4.o.bL hW);clear hz1
 go_upto_region 3 with(first
  |(go_at_call 63;refine(K1.o _ (Hp.o _ H6.o.bL)).m ?_;rintro e w3 ⟨rfl,U⟩;have H63:=F<|H6.o.below U;clear U)
  |(refine ox rfl 9 (.tmp 13) (.tmp 11) rfl w1 (w.heap.size+1) 79 (aW P0) H63.o 6 (S f) rfl rfl (show 6<7 by decide) bY.1 rfl (aW {P0 with f:=f}) rfl ?_;intro w4 i _ _;have SU:=F i;clear i)
  |(refine ox rfl 4 (.tmp 14) (.tmp 12) rfl w1 (w.heap.size+1) 79 (aW {P0 with f:=f}) SU.o 5 (.bool hf) rfl rfl (show 5<7 by decide) bY.2.2 rfl (aW {P0 with f:=f,cg:=hf}) rfl ?_;intro w5 i _ _;have Ns:=F i;clear i))
 clear H6 H63 SU
 go_upto_region 4 with(first
  |(go_at_call 63;refine(K2.o _ (Hp.o _ Ns.o.bL)).m ?_;rintro e w6 ⟨rfl,U⟩;have WO:=F<|Ns.o.below U;clear U)
  |(refine ox rfl 9 (.tmp 21) (.tmp 19) rfl w1 (w.heap.size+1) 79 (aW {P0 with f:=f,cg:=hf}) WO.o 4 (S q) rfl rfl (show 4<7 by decide) bY.1 rfl (aW {P0 with f:=f,cg:=hf,q:=q}) rfl ?_;intro w7 i _ _;have Tl:=F i;clear i)
  |(refine ox rfl 4 (.tmp 22) (.tmp 20) rfl w1 (w.heap.size+1) 79 (aW {P0 with f:=f,cg:=hf,q:=q}) Tl.o 3 (.bool hq) rfl rfl (show 3<7 by decide) bY.2.2 rfl (aW {P0 with f:=f,cg:=hf,q:=q,bZ:=hq}) rfl ?_;intro w8 i _ _;have WP:=F i;clear i))
 clear Ns WO Tl
 go_upto_region 5 with(first
  |(refine ox rfl 9 (.tmp 24) (.tmp 23) rfl w1 (w.heap.size+1) 79 (aW {P0 with f:=f,cg:=hf,q:=q,bZ:=hq}) WP.o 2 (.string SB) rfl rfl (show 2<7 by decide) bY.1 rfl (aW {P0 with f:=f,cg:=hf,q:=q,bZ:=hq,rest:=b}) (by rw[HSB.o];rfl) ?_;intro w9 i _ _;have H69:=F i;clear i))
 clear WP
 go_upto_region 6 with(first
  |(go_at_call 63;refine(K3.o _ (Hp.o _ H69.o.bL)).m ?_;rintro e xr ⟨rfl,U⟩;have H70:=F<|H69.o.below U;clear U))
 clear H69;cases hc with
 |false =>
  have HR:=F (show R=⟨false,[],b,hq,q,hf,f⟩from YE.o)
  go_upto_region 10 with fail
  have Ew:=F<|H4.o.below H70.o.bL
  go_wp2_with (first
   |(refine CF rfl 79 (.tmp 3) rfl w1 (w.heap.size+1) 79 (aW {P0 with f:=f,cg:=hf,q:=q,bZ:=hq,rest:=b}) H70.o _ rfl underlying79 rfl mO ?_)
   |(refine Ma rfl 79 (.tmp 2) (.tmp 42) rfl w w.heap.size 79 (aW P0) Ew.o 0 (aW {P0 with f:=f,cg:=hf,q:=q,bZ:=hq,rest:=b}).toList rfl rfl (ag _) mO Ju (aW {P0 with f:=f,cg:=hf,q:=q,bZ:=hq,rest:=b}) rfl ?_;intro w12 i;have Ex:=F i;clear i))
  exact Rj rfl Ex.o (by rw[HR.o];rfl)
 |true =>
  cases sn with
  |false =>
   have HR:=F (show R=⟨false,[],b,hq,q,hf,f⟩from YE.o)
   go_upto_region 10 with(first
    |(go_at_call 77;refine(KN.o _).m ?_;rintro e Eb ⟨rfl,hw⟩;subst hw))
   have Ew:=F<|H4.o.below H70.o.bL
   go_wp2_with (first
    |(refine CF rfl 79 (.tmp 3) rfl w1 (w.heap.size+1) 79 (aW {P0 with f:=f,cg:=hf,q:=q,bZ:=hq,rest:=b}) H70.o _ rfl underlying79 rfl mO ?_)
    |(refine Ma rfl 79 (.tmp 2) (.tmp 42) rfl w w.heap.size 79 (aW P0) Ew.o 0 (aW {P0 with f:=f,cg:=hf,q:=q,bZ:=hq,rest:=b}).toList rfl rfl (ag _) mO Ju (aW {P0 with f:=f,cg:=hf,q:=q,bZ:=hq,rest:=b}) rfl ?_;intro w12 i;have Ex:=F i;clear i))
   exact Rj rfl Ex.o (by rw[HR.o];rfl)
  |true =>
   have HR:=F (show R=⟨true,cl,d,hq,q,hf,f⟩from YE.o)
   go_upto_region 10 with(first
    |(go_at_call 77;refine(KN.o _).m ?_;rintro e Eb ⟨rfl,hw⟩;subst hw)
    |(go_at_call 32;refine(KL.o _).m ?_;rintro e w13 ⟨rfl,U⟩;have H73:=F<|H71.o.below U;clear U)
    |(refine ox rfl 4 (.tmp 36) (.const (.bool true)) rfl w1 (w.heap.size+1) 79 (aW {P0 with f:=f,cg:=hf,q:=q,bZ:=hq,rest:=b}) H70.o 0 (.bool true) rfl rfl (show 0<7 by decide) bY.2.2 rfl (aW {P0 with f:=f,cg:=hf,q:=q,bZ:=hq,rest:=b,gR:=true}) rfl ?_;intro w12 i _ _;have H71:=F i;clear i)
    |(refine ox rfl 9 (.tmp 39) (.tmp 38) rfl w1 (w.heap.size+1) 79 (aW {P0 with f:=f,cg:=hf,q:=q,bZ:=hq,rest:=b,gR:=true}) H73.o 1 (S cl) rfl rfl (show 1<7 by decide) bY.1 rfl (aW {P0 with f:=f,cg:=hf,q:=q,bZ:=hq,rest:=b,gR:=true,aJ:=cl}) rfl ?_;intro w14 i _ _;have H74:=F i;clear i)
    |(refine ox rfl 9 (.tmp 41) (.tmp 40) rfl w1 (w.heap.size+1) 79 (aW {P0 with f:=f,cg:=hf,q:=q,bZ:=hq,rest:=b,gR:=true,aJ:=cl}) H74.o 2 (S d) rfl rfl (show 2<7 by decide) bY.1 rfl (aW {P0 with f:=f,cg:=hf,q:=q,bZ:=hq,rest:=d,gR:=true,aJ:=cl}) rfl ?_;intro w15 i _ _;have H75:=F i;clear i))
   have Ew:=F<|H4.o.below H75.o.bL
   go_wp2_with (first
    |(refine CF rfl 79 (.tmp 3) rfl w1 (w.heap.size+1) 79 (aW {P0 with f:=f,cg:=hf,q:=q,bZ:=hq,rest:=d,gR:=true,aJ:=cl}) H75.o _ rfl underlying79 rfl mO ?_)
    |(refine Ma rfl 79 (.tmp 2) (.tmp 42) rfl w w.heap.size 79 (aW P0) Ew.o 0 (aW {P0 with f:=f,cg:=hf,q:=q,bZ:=hq,rest:=d,gR:=true,aJ:=cl}).toList rfl rfl (ag _) mO Ju (aW {P0 with f:=f,cg:=hf,q:=q,bZ:=hq,rest:=d,gR:=true,aJ:=cl}) rfl ?_;intro w12 i;have Ex:=F i;clear i))
   exact Rj rfl Ex.o HR.o.symm
