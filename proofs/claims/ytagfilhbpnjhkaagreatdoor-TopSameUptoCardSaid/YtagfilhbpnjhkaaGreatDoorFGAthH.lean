import Derived.Test.YtagfilhbpnjhkaaGreatDoorFGHlwA
set_option maxRecDepth 10000
set_option maxHeartbeats 0
namespace Go.Proofs.Q
open Tryz Go.RowKit
def JG(l:O):Option (O×O×O):=match zL l with
 |none=>some (l,[],[])
 |some (who,rest)=>if rest=[]then none else some (rest,dD 5 (qH who).1,dD 5 (qH who).2)
theorem Ii(aJ l:O):kr aJ l=match JG l with|none=>none|some (s,u,p)=>tG aJ s u p:=by
 unfold kr JG;cases zL l with
 |none=>rfl
 |some v =>
  obtain⟨a,b⟩:=v;dsimp only
  split <;>rfl
def Ng(s:O):Option (O×O):=match ta false s with
 |none=>some (s,[])
 |some k=>if s.take k=[]then none else some (s.take k,s.drop (k+1))
theorem JA(aJ s u p:O):tG aJ s u p=match Ng s with|none=>none|some (n,q)=>Ct aJ n q u p:=by
 unfold tG Ng;rw[Xx];cases ta false s with
 |none=>rfl
 |some k =>
  simp only[Xg]
  split <;>rfl
theorem NL{tmps:Array Z}{w f:H}{b:Nat}{a:qj}{q:Bool}(I:tmps.getD 4 undef=.pointer (some ⟨b,0,none⟩))(h:tmps.getD 5 undef=.bool q)(i:OB w b 169 (bU a) f)(g:a.host.six.length=8){R:Option qj}(j:a=R.getD A0)(l:q=R.isSome) :
  bodyPost prog f169 (λe m=>e=a29 R/\r7 w m) Exit.ret {tmps:=tmps,defers:=[]} f:=by
 have c:tmps[4]?.getD undef=.pointer (some ⟨b,0,none⟩):=by simpa using I
 have d:tmps[5]?.getD undef=.bool q:=by simpa using h
 have k:=i.load (P:=prog) 169 _ underlying169 rfl (by rw[fC g];exact qy);refine bodyPost_ret (v:=.tuple #[.agg (bU a),.bool q]) ?_ rfl ⟨by rw[j,l],i.bL⟩;simp[results,results169,asAddr,c,d,k]
theorem Rv{ops:Array Oper}{rest:List Oper}{o:Oper}{a:Act}{w:H}{Q:Exit->Act->H->Prop}(d:o.guard=none)(x y:Operand)(g:o.op=.store 169 x y)(w0:H)(b:Nat)(a0 c:qj)(i:OB w0 b 169 (bU a0) w)
  (e:a0.host.six.length=8) (Y:c.host.six.length=8) (X:a.eval x=.pointer (some ⟨b,0,none⟩)) (hy:a.eval y=.agg (bU c))
  (K:∀f,OB w0 b 169 (bU c) f->wpList prog ops Q rest (a.put o.dst undef) f):wpList prog ops Q (o::rest) a w :=
 Ma d 169 x y g w0 b 169 (bU a0) i 0 (kq c) X hy (by rw[fC e,qz Y];exact ag _) (by rw[qz Y];exact qy) Ig (bU c) (mQ _ _ (by rw[qz e,qz Y])) K
theorem Gx{s n q:O}(h:Ng s=some (n,q)):n.length<=s.length/\q.length<=s.length:=by
 unfold Ng at h
 split at h
 ·injection h with h
  injection h with Y I
  subst Y;subst I;simp
 split at h
 ·cases h
 injection h with h
 injection h with Y I
 subst Y;subst I;rw[aD,aj];omega
theorem G4{l s u p:O}(h:JG l=some (s,u,p)):s.length<=l.length:=by
 unfold JG at h;rcases Id l with⟨_,e⟩|⟨i,hi,_,e⟩
 ·rw[e]at h
  injection h with h
  injection h with Y I
  rw[Y];exact ag _
 rw[e]at h;dsimp only at h
 split at h
 ·cases h
 injection h with h
 injection h with Y I
 rw[<-Y,aj];omega
theorem ER(aJ l:O)(w:H)(hl:l.length<=307200000)(hS:∀s u p n q,JG l=some (s,u,p)->Ng s=some (n,q)->Short n)(hE:Env w):Calls prog 169 #[.string (E aJ),.string (E l)] w λe w'=>e=a29 (kr aJ l)/\r7 w w':=by
 obtain⟨R,c⟩:=V (kr aJ l);rw[<-c];rw[Ii]at c;have M:=F c;clear c;have HSH:=F hS;clear hS;have a23:=λW=>Any.strings_LastIndexByte laysLib (E l) 64 (by rw[aF];omega) W;have hla:=Id l;obtain⟨I',hI⟩:=V (Lib.lastIndexByte (E l) 64);have CM:∀W,bP prog 209 #[.string (E l),.int .u8 64] W (.int .i64 I'):=by rw[hI];exact a23
 rw[<-hI]at hla;have Bt:=F CM;clear CM a23 hI;have hsp:=λW=>gl aJ W;have x:=λq W (hq:q.length<=1024000000)=>Kk aJ q W hq;generalize E aJ=ss at hsp x⊢;have ji:=F hsp;clear hsp;have ED:=F x;clear x;obtain⟨s,L⟩:=V (E l);have hsz:s.size=l.length:=by rw[L,aF]
 have Q:∀k,s.extract 0 k=E (l.take k):=λk=>by rw[L,cd,dP,pA]
 have z:∀k,s.extract k s.size=E (l.drop k):=λk=>by rw[L,cd,aF,aP (by rw[aj];omega)]
 have HS:=F L;rw[<-L]at Bt⊢;clear L;obtain⟨N,hN⟩:=V (s.size);have iP:s.size=N:=hN.symm;rw[iP]at z;have oP:N<=307200000:=M0;have mc:N=l.length:=M0;have TM:=F Q;clear Q;have TO:=F z;clear z;have MV:=F hla;clear hla;have HE:=F hE;clear hE;have S1:=F mc;have HL:=F hl;clear hsz hl hN mc;go_enter func169,ntmps169
 go_upto_if 19 with(first|(refine aM rfl 169 rfl _ _ (allA _) ?_)|(go_at_call 209;refine(Bt.o _).m ?_;rintro e w2⟨rfl,hw2⟩;subst hw2))
 have h4:=OB.fresh w 169 (bU A0);obtain⟨B,hw1⟩:=V (w.alloc (.cells (bU A0) 169));rw[<-hw1]at h4⊢;have hz1:B.heap.size=w.heap.size+1:=by rw[hw1];simp
 have T:=OB.fresh B 169 (bU A0);rw[hz1]at T;have H4:=F h4;clear h4;clear hw1;generalize B.alloc (.cells (bU A0) 169)=w2 at T⊢;have y:=F T;clear T;have HZ:=F hz1;clear hz1
 go_cut [1] (λsv wx=>∃s2 u p,JG l=some (s2,u,p)/\sv=.string (E s2)/\Hid (OB B (w.heap.size+1) 169 (bU {A0 with user:=u,pass:=p}) wx))
 case first =>
  rcases MV.o with⟨e1,e2⟩|⟨i,hi,e1,e2⟩
  ·subst e1
   have a:JG l=some (l,[],[]):=by unfold JG;rw[e2]
   have HST:=F a;clear a e2 MV;go_wp2_with fail
   go_meet
   exact⟨l,[],[],HST.o,by rw[HS.o],y.o⟩
  subst e1;have e3:=TM.o i;have e4:=TO.o (i+1);have a:JG l=if l.drop (i+1)=[]then none else some (l.drop (i+1),dD 5 (qH (l.take i)).1,dD 5 (qH (l.take i)).2):=by unfold JG;rw[e2]
  have me:=λW (hW:r7 w W)=>gK (l.take i) [58] W (by rw[aD];have:=HL.o;omega) (HE.o.below hW);rw[yI]at me;rw[Oz]at a
  have hlen:(bQ 58 (l.take i)).1.length<=307200000/\(bQ 58 (l.take i)).2.1.length<=307200000:=by
   have h:=congrArg List.length (mn 58 (l.take i));have hq:(bQ 58 (l.take i)).2.2=false->(bQ 58 (l.take i)).2.1=[]:=gm 58 _;rw[ae]at h;have:=HL.o;by_cases hf:(bQ 58 (l.take i)).2.2=true
   ·rw[ge hf,cz,aD]at h
    omega
   rw[gc hf,aO,aD]at h;rw[hq (by simpa using hf)];simp only[aO];omega
  have hin:i+1<=N:=by have:=S1.o;omega
  generalize bQ 58 (l.take i)=C at me a hlen;obtain⟨c1,c2,c3⟩:=C;simp only at a hlen me;have hp1:=λW=>eT 5 c1 W M0;have hp2:=λW=>eT 5 c2 W M0;generalize l.take i=who at e3 me;obtain⟨r,J⟩:=ey (E (l.drop (i+1)));have d:r.toList=[] ↔ l.drop (i+1)=[]:=by rw[J.o,aB]
  rw[<-J.o]at e4;generalize l.drop (i+1)=rest at a d J;generalize dD 5 c1=u at a hp1;generalize dD 5 c2=p at a hp2;obtain⟨k1,hk1,k2,hk2⟩:=ac (E c1) (E c2);have ZJ:∀W,r7 w W->bF prog 72 #[.string (E who),.string ⟨#[58]⟩] W (.tuple #[.string k1,.string k2,.bool c3]):=by rw[hk1,hk2];exact me
  rw[<-hk1]at hp1;rw[<-hk2]at hp2;clear hk1 hk2 me hlen;generalize E who=wh at e3 ZJ;have lB:=F ZJ;clear ZJ;have xO:=F hp1;clear hp1;have X1:=F hp2;clear hp2;have HST:=F a;clear a e2 MV;have hn:((i:Int)+1)=((i+1:Nat):Int):=M0;have hwr:IntKind.i64.wrap ((i:Int)+1)=((i+1:Nat):Int):=by rw[hn];exact gS _ M0
  have hin2:(((i+1:Nat):Int))<=N:=M0;have hii:(i:Int)<=N:=M0;generalize i+1=i1 at e4 hwr hin hin2;clear hn;have Hp:=fo (∀W,r7 B W->r7 w W) (λW hW=>dw H4.o.bL hW)
  go_upto_region 5 with(go_at_call 72;refine(lB.o _ (Hp.o _ y.o.bL)).k λw3 hb3=>?_;have H63:=F<|y.o.below hb3.o;clear hb3)
  clear y lB
  go_upto_region 6 with(first|(go_at_call 167;refine(xO.o _).k λw4 j=>?_;have SU:=F<|H63.o.below j.o;clear j)|(refine ox rfl 9 30 29 rfl B (w.heap.size+1) 169 (bU A0) SU.o 0 (S u) rfl rfl (by rw[fC rfl];decide) bY.1 rfl (bU {A0 with user:=u}) (NR A0 u) ?_;intro w5 i5 _ _;have Ns:=F i5;clear i5))
  clear H63 SU xO
  go_upto_region 7 with(first|(go_at_call 167;refine(X1.o _).k λw6 hb6=>?_;have WO:=F<|Ns.o.below hb6.o;clear hb6)|(refine ox rfl 9 33 32 rfl B (w.heap.size+1) 169 (bU {A0 with user:=u}) WO.o 1 (S p) rfl rfl (by rw[fC rfl];decide) bY.1 rfl (bU {A0 with user:=u,pass:=p}) (NQ {A0 with user:=u} p) ?_;intro w7 i7 _ _;have Tl:=F i7;clear i7))
  clear Ns WO X1;by_cases f:rest=[]
  ·have a:=HST.o
   rw[ge f]at a;have he:=d.mpr f;have he1:r.toList.isEmpty=true:=by rw[he];rfl
   have c:=M.o;rw[a]at c;have iT:=fo (R=none) c;have Ew:=F<|H4.o.below (Tl.o.bL);clear a c d
   go_wp2_with(refine Rv rfl 4 40 rfl w w.heap.size A0 A0 Ew.o rfl rfl rfl rfl ?_;intro w8 i8;have Ex:=F i8;clear i8)
   exact NL rfl rfl Ex.o rfl (by rw[iT.o];rfl) (by rw[iT.o];rfl)
  have a:=HST.o;rw[gc f]at a;have he:¬r.toList=[]:=λh=>f (d.mp h);have he1:r.toList.isEmpty=false:=by simpa using he
  have Hw:=F a;clear a d;go_wp2_with fail
  go_meet
  exact⟨rest,u,p,Hw.o,by rw[J.o],Tl.o⟩
 case rest =>
  obtain⟨s2,u,p,a,rfl,T⟩:=hcut;clear y MV TM TO Bt HS S1 oP iP;have hl2:=G4 a;have Ny:=F a;have c:=M.o;rw[a]at c;replace c:R=tG aJ s2 u p:=c;have hl3:s2.length<=307200000:=by have:=HL.o;omega
  rw[JA]at c;have hco:=λW=>Ky s2 W M0;have t:Ng s2=match ta false s2 with|none=>some (s2,[])|some k=>if s2.take k=[]then none else some (s2.take k,s2.drop (k+1)):=rfl
  have hnl:=λn q (h:Ng s2=some (n,q))=>Gx h;have hcl:=λk (h:ta false s2=some k)=>Is false s2 k h;generalize ta false s2=C at t hco hcl;have HNQ:=F t;clear t;have S1:=F hnl;clear hnl;have xl:=F hcl;clear hcl;have J:=F c;clear c a M;have y:=F T;clear T;have HL3:=F hl3;clear hl3 hl2;obtain⟨s,L⟩:=V (E s2);have hsz:s.size=s2.length:=by rw[L,aF]
  have Q:∀k,s.extract 0 k=E (s2.take k):=λk=>by rw[L,cd,dP,pA]
  have z:∀k,s.extract k s.size=E (s2.drop k):=λk=>by rw[L,cd,aF,aP (by rw[aj];omega)]
  have HS:=F L;rw[<-L]at hco⊢;have HCO:=F hco;clear hco L;obtain⟨N,hN⟩:=V (s.size);have iP:s.size=N:=hN.symm;rw[iP]at z;have oP:N<=307200000:=by have:=HL3.o;omega
  have mc:N=s2.length:=M0;have TM:=F Q;clear Q;have TO:=F z;clear z;have xm:=F mc;clear mc hN hsz
  go_upto_if 45 with(go_at_call 210;refine(HCO.o _).e ?_)
  go_cut [11,12] (λnv A wx=>∃n q,Ng s2=some (n,q)/\nv=.string (E n)/\A=.string (E q)/\Hid (OB B (w.heap.size+1) 169 (bU {A0 with user:=u,pass:=p}) wx))
  case first =>
   cases C with
   |none =>
    have HQ:=fo (Ng s2=some (s2,[])) HNQ.o;have hm1:¬(0:Int)<=-1:=M0;simp only[a0F];go_wp2_with fail
    go_meet
    exact⟨s2,[],HQ.o,by rw[HS.o],rfl,y.o⟩
   |some k =>
    have hlt:=xl.o k rfl;have t:Ng s2=if s2.take k=[]then none else some (s2.take k,s2.drop (k+1)):=HNQ.o;have e3:=TM.o k;have e4:=TO.o (k+1);have hn:((k:Int)+1)=((k+1:Nat):Int):=M0;have hkN:k+1<=N:=by have:=xm.o;omega
    have hwr:IntKind.i64.wrap ((k:Int)+1)=((k+1:Nat):Int):=by rw[hn];exact gS _ M0
    have hin2:(((k+1:Nat):Int))<=N:=M0;have hii:(k:Int)<=N:=M0;obtain⟨nm,mX⟩:=ey (E (s2.take k));obtain⟨qq,HQQ⟩:=ey (E (s2.drop (k+1)));have d:nm.toList=[] ↔ s2.take k=[]:=by rw[mX.o,aB]
    rw[<-mX.o]at e3;rw[<-HQQ.o]at e4;generalize s2.take k=n at t d mX;generalize s2.drop (k+1)=q at t HQQ;generalize k+1=k1 at e4 hwr hin2 hkN;clear hn hlt;have a2n:=F t;clear t;simp only[a0F];by_cases f:n=[]
    ·have a:=a2n.o
     rw[ge f]at a;have he:=d.mpr f;have he1:nm.toList.isEmpty=true:=by rw[he];rfl
     have c:=J.o;rw[a]at c;have iT:=fo (R=none) c;clear a c d;go_wp2_with fail
     go_quiet (fail)
     have H62:=F<|y.o.below (nO (n:=nq) (bg _));have Ew:=F<|H4.o.below (H62.o.bL)
     go_wp2_with(refine Rv rfl 4 55 rfl w w.heap.size A0 A0 Ew.o rfl rfl rfl rfl ?_;intro w8 i8;have Ex:=F i8;clear i8)
     exact NL rfl rfl Ex.o rfl (by rw[iT.o];rfl) (by rw[iT.o];rfl)
    have a:=a2n.o;rw[gc f]at a;have he:¬nm.toList=[]:=λh=>f (d.mp h);have he1:nm.toList.isEmpty=false:=by simpa using he
    have Hw:=F a;clear a d;go_wp2_with fail
    go_quiet (fail)
    have H62:=F<|y.o.below (nO (n:=nq) (bg _));go_wp2_with fail
    go_meet
    exact⟨n,q,Hw.o,by rw[mX.o],by rw[HQQ.o],H62.o⟩
  case rest =>
   obtain⟨n,q,a,rfl,rfl,T⟩:=hcut;clear y HNQ xl TM TO HCO HS xm oP iP;have hnl:=S1.o n q a;have c:=J.o;rw[a]at c;replace c:R=Ct aJ n q u p:=c;have hl3:n.length<=307200000/\q.length<=307200000:=by have:=HL3.o;omega
   have K:=λW (hW:r7 w W)=>vG n (eU aJ) W (HSH.o s2 u p n q Ny.o a) (HE.o.below hW);have x:=λW=>ED.o q W M0;unfold Ct at c;have h8:=λg (h:fm n (eU aJ)=some g)=>(od (hkind h)).l;generalize eU aJ=SP at *;obtain⟨HO,hHO,PO,hPO⟩:=ac (fm n SP) (Uc aJ q);rw[<-hHO]at c K h8;rw[<-hPO]at c x;clear hHO hPO a S1 J ED hnl hl3 HL3;obtain⟨nb,hnb,qb,hqb⟩:=ac (E n) (E q);rw[<-hnb]at K⊢;rw[<-hqb]at x⊢;clear hnb hqb;have Hp:=fo (∀W,r7 B W->r7 w W) (λW hW=>dw H4.o.bL hW);have HP:=F x;clear x;have y:=F T;clear T;cases HO with
   |none =>
    have HH:=fo (∀W,r7 w W->bF prog 203 #[.string nb,.bool SP] W (.tuple #[.agg (aT H0),.bool false])) K;have M:=fo (R=none) c;clear K c h8
    go_upto_region 17 with(first|(go_at_call 119;refine(ji.o _).e ?_)|(go_at_call 203;refine(HH.o _ (Hp.o _ y.o.bL)).k λw4 j=>?_;have SU:=F<|y.o.below j.o;clear j)|(refine aM rfl 32 rfl _ _ (A7 _) ?_)|(refine AW rfl 14 61 rfl H0 rfl rfl rfl rfl ?_;intro W2 hh U;have HHB:=F hh;have Ns:=F<|SU.o.below U;clear hh U))
    have Ew:=F<|H4.o.below (Ns.o.bL)
    go_wp2_with(refine Rv rfl 4 65 rfl w w.heap.size A0 A0 Ew.o rfl rfl rfl rfl ?_;intro w8 i8;have Ex:=F i8;clear i8)
    exact NL rfl rfl Ex.o rfl (by rw[M.o];rfl) (by rw[M.o];rfl)
   |some g =>
    have HH:=fo (∀W,r7 w W->bF prog 203 #[.string nb,.bool SP] W (.tuple #[.agg (aT g),.bool true])) K;have D:=F<|h8 g rfl;clear K h8;dsimp only at c
    go_upto_region 17 with(first|(go_at_call 119;refine(ji.o _).e ?_)|(go_at_call 203;refine(HH.o _ (Hp.o _ y.o.bL)).k λw4 j=>?_;have SU:=F<|y.o.below j.o;clear j)|(refine aM rfl 32 rfl _ _ (A7 _) ?_)|(refine AW rfl 14 61 rfl g D.o rfl rfl rfl ?_;intro W2 hh U;have HHB:=F hh;have Ns:=F<|SU.o.below U;clear hh U))
    clear y SU
    go_upto_region 20 with(first|(refine QN r5 14 rfl _ g HHB.o rfl ?_)|(refine Ma rfl 32 67 66 rfl B (w.heap.size+1) 169 (bU {A0 with user:=u,pass:=p}) Ns.o 2 (aS g) rfl rfl (by rw[fC rfl];simp[aS,D.o]) (by rw[jb];simp[aS,D.o]) jX (bU {A0 with user:=u,pass:=p,host:=g}) (NP {A0 with user:=u,pass:=p} g D.o rfl) ?_;intro w5 i5;have WO:=F i5;clear i5))
    clear Ns HHB;cases PO with
    |none =>
     have HP:=fo (∀W,bP prog 211 #[.string ss,.string qb] W (.tuple #[.int .i64 0,.bool false,.bool false])) HP.o;have M:=fo (R=none) c;clear c
     go_upto_region 21 with(first|(go_at_call 211;refine(HP.o _).e ?_)|(refine ox rfl 3 75 72 rfl B (w.heap.size+1) 169 (bU {A0 with user:=u,pass:=p,host:=g}) WO.o 14 (.int .i64 0) rfl rfl (by rw[fC D.o];decide) bY.2.1 rfl (bU {A0 with user:=u,pass:=p,host:=g,port:=0}) (BF {A0 with user:=u,pass:=p,host:=g} 0 D.o) ?_;intro w7 i7 _ _;have Tl:=F i7;clear i7)|(refine ox rfl 4 76 73 rfl B (w.heap.size+1) 169 (bU {A0 with user:=u,pass:=p,host:=g,port:=0}) Tl.o 13 (.bool false) rfl rfl (by rw[fC D.o];decide) bY.2.2 rfl (bU {A0 with user:=u,pass:=p,host:=g,port:=0,bz:=false}) (If {A0 with user:=u,pass:=p,host:=g,port:=0} false D.o) ?_;intro w8 i8 _ _;have WP:=F i8;clear i8))
     have Ew:=F<|H4.o.below (WP.o.bL)
     go_wp2_with(refine Rv rfl 4 79 rfl w w.heap.size A0 A0 Ew.o rfl rfl rfl rfl ?_;intro w8 i8;have Ex:=F i8;clear i8)
     exact NL rfl rfl Ex.o rfl (by rw[M.o];rfl) (by rw[M.o];rfl)
    |some v =>
     obtain⟨v,b⟩:=v;have HP:=fo (∀W,bP prog 211 #[.string ss,.string qb] W (.tuple #[.int .i64 v,.bool b,.bool true])) HP.o;have M:=fo (R=some {A0 with user:=u,pass:=p,host:=g,port:=v,bz:=b}) c;clear c
     go_upto_region 21 with(first|(go_at_call 211;refine(HP.o _).e ?_)|(refine ox rfl 3 75 72 rfl B (w.heap.size+1) 169 (bU {A0 with user:=u,pass:=p,host:=g}) WO.o 14 (.int .i64 v) rfl rfl (by rw[fC D.o];decide) bY.2.1 rfl (bU {A0 with user:=u,pass:=p,host:=g,port:=v}) (BF {A0 with user:=u,pass:=p,host:=g} v D.o) ?_;intro w7 i7 _ _;have Tl:=F i7;clear i7)|(refine ox rfl 4 76 73 rfl B (w.heap.size+1) 169 (bU {A0 with user:=u,pass:=p,host:=g,port:=v}) Tl.o 13 (.bool b) rfl rfl (by rw[fC D.o];decide) bY.2.2 rfl (bU {A0 with user:=u,pass:=p,host:=g,port:=v,bz:=b}) (If {A0 with user:=u,pass:=p,host:=g,port:=v} b D.o) ?_;intro w8 i8 _ _;have WP:=F i8;clear i8))
     obtain⟨A1,hA1⟩:∃A1:qj,A1={A0 with user:=u,pass:=p,host:=g,port:=v,bz:=b}:=⟨_,rfl⟩;have h18:A1.host.six.length=8:=by rw[hA1];exact D.o
     rw[<-hA1]at WP;have HR2:=F (show R=some A1 by rw[hA1];exact M.o);clear hA1 M;have H18:=F h18;clear h18;have Ew:=F<|H4.o.below (WP.o.bL)
     go_wp2_with(first|(refine CF rfl 169 6 rfl B (w.heap.size+1) 169 (bU A1) WP.o _ rfl underlying169 rfl (by rw[fC H18.o];exact qy) ?_)|(refine Rv rfl 4 80 rfl w w.heap.size A0 A1 Ew.o rfl H18.o rfl rfl ?_;intro w8 i8;have Ex:=F i8;clear i8))
     exact NL rfl rfl Ex.o H18.o (by rw[HR2.o];rfl) (by rw[HR2.o];rfl)

structure CB (W:H) (b:Nat) (T:TypeId) (cs:Array Z):Prop where
 a:W.heap[b]?= some (.cells cs T (0,0))
section
variable {W W':H} {b:Nat} {T:TypeId} {cs:Array Z}
theorem CB.lt(i:CB W b T cs):b<W.heap.size:=(bw.1 i.a).1
theorem CB.keep(i:CB W b T cs)(U:r7 W W'):CB W' b T cs:=⟨(U.block b i.lt).trans i.a⟩
theorem CB.new(W:H)(T:TypeId)(cs:Array Z):CB (W.alloc (.cells cs T)) W.heap.size T cs:=⟨jp W _⟩
theorem CB.cell(i:CB W b T cs)(j:Nat):W.cell? ⟨b,j,none⟩=cs[j]?:=by simp[World.cell?,i.a]
theorem CB.aE(i:CB W b T cs){j:Nat}{v:Z}(h:cs[j]?= some v):W.cell? ⟨b,j,none⟩=some v:=(i.cell j).trans h
theorem CB.range(i:CB W b T cs){o:Nat}{vs:List Z}(h:∀j v,vs[j]?= some v->cs[o+j]?= some v):W.rangeAt b o vs:=λj v a=>i.aE (h j v a)
theorem CB.load{P:Program}(i:CB W b T cs)(ty:TypeId)(d:TypeDesc)(hu:P.underlying ty=some d)(hd:(match d with | .struct _ | .array _ _=>true|_=>false)=true)(hi:(P.info? ty).map (·.size)=some cs.size):(loadVar ty ⟨b,0,none⟩).run P W=.ok (.agg cs) W :=
 run_loadVar_row (P:=P) W b T ty cs (0,0) d i.a hu hd hi
end
section
variable {P:Program} {ops:Array Oper} {rest:List Oper} {o:Oper} {a:Act} {w:H} {Q:Exit->Act->H->Prop}
theorem jG{W:H}(e:o.guard=none)(T:TypeId)(x y:Operand)(f:o.op=.store T x y)(cs old:Array Z)(hi:(P.info? T).map (·.size)=some cs.size)(hold:old.size=cs.size)(Y:cs.all (·.oneCell')=true)
  (d:W=w.alloc (.cells old T)) (X:a.eval x=.pointer (some ⟨w.heap.size,0,none⟩)) (hy:a.eval y=.agg cs)
  (k:∀c,CB c w.heap.size T cs->r7 w c->wpList P ops Q rest (a.put o.dst undef) c):wpList P ops Q (o::rest) a W:=by
 subst d;exact gy e T x y f cs old T X hy hi hold Y (k _ (CB.new w T cs) ((gT _ _).alloc (ag _) _))
theorem je(T:TypeId)(x:Operand)(c:o.op=.load T x)(b:Nat)(cs:Array Z)(d:TypeDesc)(hu:P.underlying T=some d)(hd:(match d with | .struct _ | .array _ _=>true|_=>false)=true)(hi:(P.info? T).map (·.size)=some cs.size)
  (X:a.eval x=.pointer (some ⟨b,0,none⟩)) (i:CB w b T cs):(execOp a.eval o).run P w=.ok (.value (.agg cs)) w:=by
 have e:=i.load (P:=P) T d hu hd hi;unfold execOp;simp only[c,X,Instr.loadAt,Instr.sureAddr,h2,io,h1,e]
theorem vR(c:Region.wanted o (yielded ops a.tmps)=true)(T:TypeId)(x:Operand)(e:o.op=.load T x)(b:Nat)(cs:Array Z)(d:TypeDesc)(hu:P.underlying T=some d)(hd:(match d with | .struct _ | .array _ _=>true|_=>false)=true)(hi:(P.info? T).map (·.size)=some cs.size)
  (X:a.eval x=.pointer (some ⟨b,0,none⟩)) (i:CB w b T cs) (k:wpList P ops Q rest (a.put o.dst (.agg cs)) w):wpList P ops Q (o::rest) a w :=
 nj c (.agg cs) (je T x e b cs d hu hd hi X i) k
theorem gU(T:TypeId)(x:Operand)(c:o.op=.load T x)(b k:Nat)(vs:List Z)(d:TypeDesc)(hu:P.underlying T=some d)(hd:d.isRow=true)(hi:(P.info? T).map (·.size)=some vs.length)
  (X:a.eval x=.pointer (some ⟨b,k,none⟩)) (f:w.rangeAt b k vs):(execOp a.eval o).run P w=.ok (.value (.agg vs.toArray)) w:=by
 have e:=run_loadVar_mid (P:=P) w b k T vs d f hu hd hi;unfold execOp;simp only[c,X,Instr.loadAt,Instr.sureAddr,h2,io,h1,e]
theorem bK(T:TypeId)(x:Operand)(f:o.op=.load T x)(b k:Nat)(v:Z)(d:TypeDesc)(hu:P.underlying T=some d)(hd:(match d with | .struct _ | .array _ _=>true|_=>false)=false)
  (X:a.eval x=.pointer (some ⟨b,k,none⟩)) (c:w.cell? ⟨b,k,none⟩=some v):(execOp a.eval o).run P w=.ok (.value v) w:=by
 have hagg:(isAgg T).run P w=.ok false w:=by
  unfold isAgg;rw[h2,run_underlying hu w];cases d <;>simp_all
 unfold execOp;simp only[f,X,Instr.loadAt,Instr.sureAddr,h2,io,h1];have e:(loadVar T ⟨b,k,none⟩).run P w=.ok v w:=by simp[loadVar,hagg,c]
 rw[e];rfl
end
section
variable {ops:Array Oper} {rest:List Oper} {o:Oper} {a:Act} {w:H} {Q:Exit->Act->H->Prop}
theorem Sf{W:H}(f:o.guard=none)(x y:Operand)(g:o.op=.store 169 x y)(h:qj)(d:h.host.six.length=8)(e:W=w.alloc (.cells (bU A0) 169))(X:a.eval x=.pointer (some ⟨w.heap.size,0,none⟩))(hy:a.eval y=.agg (bU h))
  (k:∀c,CB c w.heap.size 169 (bU h)->r7 w c->wpList prog ops Q rest (a.put o.dst undef) c):wpList prog ops Q (o::rest) a W :=
 jG f _ x y g (bU h) (bU A0) (by rw[fC d];exact qy) (by rw[fC d];rfl) (all_oneCell_toArray Ig) e X hy k
end
theorem ath_six{aJ l:O}:((kr aJ l).getD A0).host.six.length=8:=by
 cases h:kr aJ l with
 |none=>rfl
 |some a =>
  obtain⟨⟨n,hh,_⟩,_⟩:=Ih h;exact(od (hkind hh)).l

abbrev ai(A:Z)(u:Url):Array Z:=(cu A u).toArray
abbrev aI:Z:=.slice none 0 0
theorem iJ:(prog.info? 34).map (·.size)=some 23:=Rz
theorem oF{A:Z}{u:Url}(h:u.host.six.length=8):(cu A u).length=23:=by simp[cu,aS,h]
theorem kJ{A:Z}{u:Url}(h:u.host.six.length=8):(ai A u).size=23:=by rw[fZ,oF h]
theorem xe{A:Z}{u:Url}(Y:A.oneCell'=true):∀v∈cu A u,v.oneCell'=true:=by
 intro v c;simp only[cu,bO,aK,cV,or_false]at c;rcases c with((e|e|e)|e)|e|e|e|e|e|e|e|e|e
 all_goals first|exact jX v e|(rw[e];first|rfl|exact Y)
theorem eD(w:H):(Instr.alloc 34 true (Value.tuple #[])).run prog w=.ok (.pointer (some ⟨w.heap.size,0,none⟩)) (w.alloc (.cells (ai aI U0) 34)):=Rz
structure UAt (cs:Array Z) (A:Z) (u:Url):Prop where
 aJ:cs[0]?= some (S u.aJ)
 usr:cs[1]?= some (S u.usr)
 ib:cs[2]?= some (S u.ib)
 kind:cs[3]?= some (.int .i64 u.host.kind)
 name:cs[4]?= some (S u.host.name)
 bz:cs[14]?= some (.bool u.bz)
 port:cs[15]?= some (.int .i64 u.port)
 opq:cs[16]?= some (.bool u.opq)
 flat:cs[17]?= some (S u.flat)
 path:cs[18]?= some A
 bZ:cs[19]?= some (.bool u.bZ)
 q:cs[20]?= some (S u.q)
 cg:cs[21]?= some (.bool u.cg)
 f:cs[22]?= some (S u.f)
 host:∀j v,(aS u.host)[j]?= some v->cs[3+j]?= some v
theorem ry(A:Z)(u:Url)(h:u.host.six.length=8):UAt (ai A u) A u:=by
 have hh:∀j v,(aS u.host)[j]?= some v->(ai A u)[3+j]?= some v:=by
  intro j v k;have hl:=(bh.1 k).1;rw[cf];unfold cu;rw[bB,dB Oc,cX (by simp;omega)]
  simpa using k
 obtain⟨aJ,usr,ib,⟨hk,hn,hf,six⟩,a1,a2,a3,a4,a5,a6,a7,a8,a9⟩:=u;simp only at h;obtain⟨a,b,c,d,e,f,g,i,rfl⟩:=eight h;exact⟨rfl,rfl,rfl,rfl,rfl,rfl,rfl,rfl,rfl,rfl,rfl,rfl,rfl,rfl,hh⟩
structure a8z (A:Z) (u:Url):Prop where
 usr:∀x,(ai A u).setIfInBounds 1 (S x)=ai A {u with usr:=x}
 ib:∀x,(ai A u).setIfInBounds 2 (S x)=ai A {u with ib:=x}
 kind:∀k,(ai A u).setIfInBounds 3 (.int .i64 k)=ai A {u with host:={u.host with kind:=k}}
 bz:∀x,(ai A u).setIfInBounds 14 (.bool x)=ai A {u with bz:=x}
 port:∀x,(ai A u).setIfInBounds 15 (.int .i64 x)=ai A {u with port:=x}
 opq:∀x,(ai A u).setIfInBounds 16 (.bool x)=ai A {u with opq:=x}
 flat:∀x,(ai A u).setIfInBounds 17 (S x)=ai A {u with flat:=x}
 path:∀v l,(ai A u).setIfInBounds 18 v=ai v {u with path:=l}
 bZ:∀x,(ai A u).setIfInBounds 19 (.bool x)=ai A {u with bZ:=x}
 q:∀x,(ai A u).setIfInBounds 20 (S x)=ai A {u with q:=x}
 cg:∀x,(ai A u).setIfInBounds 21 (.bool x)=ai A {u with cg:=x}
 f:∀x,(ai A u).setIfInBounds 22 (S x)=ai A {u with f:=x}
theorem fO(A:Z)(u:Url)(h:u.host.six.length=8):a8z A u:=by
 obtain⟨aJ,usr,ib,⟨hk,hn,hf,six⟩,a1,a2,a3,a4,a5,a6,a7,a8,a9⟩:=u;simp only at h;obtain⟨a,b,c,d,e,f,g,i,rfl⟩:=eight h;exact⟨λ_=>rfl,λ_=>rfl,λ_=>rfl,λ_=>rfl,λ_=>rfl,λ_=>rfl,λ_=>rfl,λ_ _=>rfl,λ_=>rfl,λ_=>rfl,λ_=>rfl,λ_=>rfl⟩
theorem sP(A:Z)(u:Url)(g:gF)(g8:g.six.length=8)(c:u.host.six.length=8):ua (ai A u) 3 (aS g)=ai A {u with host:=g} :=
 rg (aS g) [S u.aJ,S u.usr,S u.ib] (aS u.host) [.bool u.bz,.int .i64 u.port,.bool u.opq,S u.flat,A,.bool u.bZ,S u.q,.bool u.cg,S u.f] (by simp[aS,g8,c])
section
variable {ops:Array Oper} {rest:List Oper} {o:Oper} {a:Act} {w:H} {Q:Exit->Act->H->Prop}
theorem fL{W:H}(f:o.guard=none)(x y:Operand)(g:o.op=.store 34 x y)(A:Z)(u:Url)(d:u.host.six.length=8)(Y:A.oneCell'=true)(e:W=w.alloc (.cells (ai aI U0) 34))(X:a.eval x=.pointer (some ⟨w.heap.size,0,none⟩))(hy:a.eval y=.agg (ai A u))
  (k:∀c,CB c w.heap.size 34 (ai A u)->r7 w c->wpList prog ops Q rest (a.put o.dst undef) c):wpList prog ops Q (o::rest) a W :=
 jG f _ x y g (ai A u) (ai aI U0) (by rw[kJ d];exact iJ) (by rw[kJ d];rfl) (all_oneCell_toArray (xe Y)) e X hy k
theorem q8(x:Operand)(d:o.op=.load 34 x)(b:Nat)(A:Z)(u:Url)(c:u.host.six.length=8)(X:a.eval x=.pointer (some ⟨b,0,none⟩))(i:CB w b 34 (ai A u)):(execOp a.eval o).run prog w=.ok (.value (.agg (ai A u))) w :=
 je _ x d b (ai A u) _ underlying34 rfl (by rw[kJ c];exact iJ) X i
theorem cR(c:Region.wanted o (yielded ops a.tmps)=true)(x:Operand)(e:o.op=.load 34 x)(b:Nat)(A:Z)(u:Url)(d:u.host.six.length=8)(X:a.eval x=.pointer (some ⟨b,0,none⟩))(i:CB w b 34 (ai A u))(k:wpList prog ops Q rest (a.put o.dst (.agg (ai A u))) w):wpList prog ops Q (o::rest) a w :=
 nj c _ (q8 x e b A u d X i) k
end

theorem kD(c:Int)(w:H):bP prog 117 #[.int .u8 c] w (.bool (iQ c)):=by
 have h:c<65\/(65<=c/\c<=90)\/(90<c/\c<97)\/(97<=c/\c<=122)\/122<c:=M0;rcases h with h|⟨Y,I⟩|⟨Y,I⟩|⟨Y,I⟩|h
 all_goals
  go_enter func117,ntmps117;go_wp2_with fail
  all_goals
   go_ret;refine⟨eA ?_,rfl⟩;unfold iQ
   first
    |exact(gr (p:=(65<=c/\c<=90)\/(97<=c/\c<=122)) M0).symm
    |exact(gh (p:=(65<=c/\c<=90)\/(97<=c/\c<=122)) M0).symm
    |(rw[gh (p:=(65<=c/\c<=90)\/(97<=c/\c<=122)) M0];simp;omega)
theorem MC(c:Int)(w:H):bP prog 118 #[.int .u8 c] w (.bool (decide (c<=32))):=by
 go_enter func118,ntmps118;go_wp2_with fail;go_ret;exact⟨rfl,rfl⟩
def Es(s:O):O:=(s.reverse.dropWhile jd).reverse
theorem JK(s:O):trimF s=Es (s.dropWhile jd):=rfl
theorem V6(s:O)(c:UInt8):Es (s++[c])=if jd c=true then Es s else s++[c]:=by
 unfold Es;rw[jK];show(List.dropWhile jd (c::s.reverse)).reverse=_;cases h:jd c with
 |true=>rw[aQ h];rfl
 |false=>rw[aX (by simp[h])];simp
theorem a5i{s:O}{k:Nat}(h:s.length=k+1):Es s=if G (s[k]' M0)<=32 then Es (s.take k)else s:=by
 have e:s=s.take k++[s[k]' M0]:=by
  rw[<-List.take_succ_eq_append_getElem M0,aP M0]
 have d:=V6 (s.take k) (s[k]' M0);rw[<-e]at d;rw[d];unfold jd;by_cases c:G (s[k]' M0)<=32
 ·rw[ge c,ge (by simpa using c)]
 rw[gc c,gc (by simpa using c)]
theorem Vw{s:O}(h:0<s.length):s.dropWhile jd=if G s[0]<=32 then(s.drop 1).dropWhile jd else s:=by
 cases s with
 |nil=>cases h
 |cons c t =>
  show List.dropWhile jd (c::t)=if G c<=32 then t.dropWhile jd else c::t;by_cases d:G c<=32
  ·rw[ge d,aQ (by unfold jd;simpa using d)]
  rw[gc d,aX (by unfold jd;simpa using d)]
theorem gn(t:O)(k n:Nat)(h:n=t.length):(E t).extract k n=E (t.drop k):=by
 rw[cd,h,aP (by rw[aj];omega)]
theorem nY(t:O)(k:Nat):(E t).extract 0 k=E (t.take k):=by
 rw[cd,dP,pA]
theorem Ed(l:O)(w:H)(hl:l.length<=1024000000):bP prog 35 #[.string (E l),.func (Fn.func 118) #[] #[]] w (S (trimF l)):=by
 rw[JK];obtain⟨L,hL⟩:=V (l.dropWhile jd)
 have ZF:L.length<=l.length:=by
  obtain⟨a,ha⟩:=jW jd l;have:=congrArg List.length ha;rw[ae,<-hL]at this;omega
 rw[<-hL];have HL:=F hL;clear hL;have v:=F<|λc W=>MC c W;go_enter func35,ntmps35;go_wp2_with fail
 go_loopw [0] (λu wr=>∃t:O,u=.string (E t)/\t.length<=1024000000/\Hid (L=t.dropWhile jd)/\w=wr) (λu _=>Dd u)
 exact⟨l,rfl,hl,HL.o,rfl⟩
 obtain⟨t,rfl,q,p,rfl⟩:=hrel;obtain⟨s,f⟩:=V (E t);have k:s.size=t.length:=by rw[f,aF]
 have g:s.toList=t:=by rw[f,aB]
 by_cases h:t=[]
 ·have he:s.toList=[]:=by rw[g,h]
  have x:s.toList.isEmpty=true:=by rw[he];rfl
  have hLn:L=[]:=by rw[p.o,h];rfl
  rw[<-f];have K:=F (show s=E (Es L) by rw[f,h,hLn];rfl);clear p g h f k;go_wp2_with fail;obtain⟨w2,n⟩:=V (w);have HW:=F n;rw[<-n];clear n
  go_loopw [0] (λu wr=>u=.string s/\w2=wr) (λu _=>Dd u)
  exact⟨rfl,rfl⟩
  obtain⟨rfl,rfl⟩:=hrel;go_wp2_with fail;go_ret;exact⟨by rw[K.o];rfl,HW.o⟩
 have he:¬s.toList=[]:=by rw[g];exact h
 have x:s.toList.isEmpty=false:=by simpa using he
 have hpos:0<t.length:=eo.mpr h;have Nd:0<s.size:=M0;have X:((s[0]'Nd).toNat:Int)=G t[0]:=cy f Nd hpos;have d:=Vw hpos;have hex:s.extract 1 s.size=E (t.drop 1):=by rw[f];exact gn t 1 _ (aF t)
 obtain⟨N,y⟩:=V (s.size);have iP:s.size=N:=y.symm;rw[iP]at hex Nd;have hNi:(1:Int)<=N:=M0;have h0i:(0:Int)<N:=M0;have hNt:N=t.length:=M0;rw[<-f];obtain⟨X',z⟩:=V (G t[0]);rw[<-z]at X d;by_cases D:X'<=32
 ·rw[ge D]at d
  have i:L=(t.drop 1).dropWhile jd:=by rw[p.o,d]
  have j:(t.drop 1).length+1=N/\N<=1024000000:=by rw[aj];omega
  generalize t.drop 1=r at i j hex;have TD:=F i;have J:=F j;clear i j;clear p d z g h f k y hpos hNt q
  go_wp2_with(go_at_call 118;refine(v.o _ _).e ?_)
  go_roundw
  exact⟨r,rfl,by have:=J.o;omega,TD.o,by first|rfl|trivial⟩
  ·have:=J.o;show(E r).size<s.size;rw[aF,iP];omega
 rw[gc D]at d;have R:L=t:=p.o.trans d;obtain⟨TH,Hw,HT⟩:=cZ (show Es L=Es t by rw[R]) f q;clear p d z g h k y hpos hNt q hex f R HL
 go_wp2_with(go_at_call 118;refine(v.o _ _).m ?_;rintro e w3⟨rfl,B⟩;subst B)
 obtain⟨w2,n⟩:=V (w3);have HW:=F n;rw[<-n];clear n
 go_loopw [0] (λu wr=>∃t:O,u=.string (E t)/\t.length<=1024000000/\Hid (Es L=Es t)/\w2=wr) (λu _=>Dd u)
 exact⟨t,by rw[Hw.o],HT.o,TH.o,rfl⟩
 clear HT TH Hw X iP hNi h0i Nd he x D;obtain⟨t,rfl,q,p,rfl⟩:=hrel;obtain⟨s,f⟩:=V (E t);have k:s.size=t.length:=by rw[f,aF]
 have g:s.toList=t:=by rw[f,aB]
 by_cases h:t=[]
 ·have he:s.toList=[]:=by rw[g,h]
  have x:s.toList.isEmpty=true:=by rw[he];rfl
  rw[<-f];have K:=F (show s=E (Es L) by rw[f,p.o,h];rfl);clear p g h f k;go_wp2_with fail;go_ret;exact⟨by rw[K.o];rfl,HW.o⟩
 have he:¬s.toList=[]:=by rw[g];exact h
 have x:s.toList.isEmpty=false:=by simpa using he
 have hpos:0<t.length:=eo.mpr h;obtain⟨M,hM⟩:∃M,t.length=M+1:=⟨t.length-1,M0⟩;have hMs:M<s.size:=M0;have X:((s[M]'hMs).toNat:Int)=G (t[M]' M0):=cy f hMs M0;have d:=a5i hM;have hex:s.extract 0 M=E (t.take M):=by rw[f];exact nY t M
 obtain⟨N,y⟩:=V (s.size);have iP:s.size=N:=y.symm;have hNM:N=M+1:=M0;have hMN:M<N:=M0;have hwr:IntKind.i64.wrap ((N:Int)-1)=(M:Int):=by rw[show(N:Int)-1=(M:Int) by omega];exact gS _ M0
 have hMi:(M:Int)<N:=M0;have Z1:(M:Int)<=N:=M0;rw[<-f];obtain⟨X',z⟩:=V (G (t[M]' M0));rw[<-z]at X d;by_cases D:X'<=32
 ·rw[ge D]at d
  have i:Es L=Es (t.take M):=by rw[p.o,d]
  have j:(t.take M).length=M/\M<N/\N<=1024000001:=by rw[aD];omega
  generalize t.take M=r at i j hex;have TD:=F i;have J:=F j;clear i j;clear p d z g h f k y hpos q hNM hM
  go_wp2_with(go_at_call 118;refine(v.o _ _).e ?_)
  go_roundw
  exact⟨r,rfl,by have:=J.o;omega,TD.o,by first|rfl|trivial⟩
  ·have:=J.o;show(E r).size<s.size;rw[aF,iP];omega
 rw[gc D]at d;have K:=F (show s=E (Es L) by rw[f,p.o,d]);clear p d z g h f k y hpos q hNM hM hex
 go_wp2_with(go_at_call 118;refine(v.o _ _).e ?_)
 go_ret;exact⟨by rw[K.o];rfl,HW.o⟩

theorem Ss(l:O)(w:H)(i:l.length<=1024000000):bP prog 75 #[.string (E l)] w (S (trimF l)):=by
 have g:=F<|λW=>Ed l W i;obtain⟨s,d⟩:=V (E l);obtain⟨t,h⟩:=ey (E (trimF l));have c:=fo (∀W,bP prog 35 #[.string s,.func (Fn.func 118) #[] #[]] W (.string t)) (by rw[d,h.o];exact g.o);rw[<-d];clear d g;go_enter func75,ntmps75;go_wp2_with fail;refine(c.o _).e ?_;go_wp2_with fail;go_ret;exact⟨by rw[h.o];rfl,rfl⟩
theorem Hc{l:O}{k:Nat}(h:k<l.length):iI (l.take (k+1))=if G l[k]=9\/G l[k]=10\/G l[k]=13 then iI (l.take k)else iI (l.take k)++[l[k]]:=by
 rw[aH h];unfold iI;rw[fy]
 have e:(l[k]==9)=decide (G l[k]=9):=by
  rw[bX,beq_iff_eq,gx];exact⟨λh=>by rw[h];decide,λh=>eX (h.trans P8)⟩
 have e10:(l[k]==10)=decide (G l[k]=10):=by
  rw[bX,beq_iff_eq,gx];exact⟨λh=>by rw[h];decide,λh=>eX (h.trans P8)⟩
 have d:(l[k]==13)=decide (G l[k]=13):=by
  rw[bX,beq_iff_eq,gx];exact⟨λh=>by rw[h];decide,λh=>eX (h.trans P8)⟩
 by_cases c:G l[k]=9\/G l[k]=10\/G l[k]=13
 ·rw[ge c,aZ (by
   rw[e,e10,d];rcases c with h|h|h <;>simp[h]),xA,aV]
 rw[gc c,aU (by
  rw[e,e10,d];simp only[not_or]at c;simp[c.1,c.2.1,c.2.2]),xA]
theorem zi(l:O):(iI l).length<=l.length:=dO _ _
theorem Mz(l:O)(w:H)(hl:l.length<=1024000000):bF prog 74 #[.string (E l)] w (S (iI l)):=by
 obtain⟨i8,tA,M,lK,nC⟩:=info_parts jn;obtain⟨s,z⟩:=V (E l);have y:s.size=l.length:=by rw[z,aF]
 have u:∀k (p:k<s.size) (v:k<l.length),((s[k]'p).toNat:Int)=G l[k]:=λk p v=>cy z p v;rw[<-z];clear z;obtain⟨N,hN⟩:=V (s.size);have iP:s.size=N:=hN.symm;have oP:N<=1024000000:=M0;have iV:=F u;clear u;have R:=F y;clear y hl hN;go_enter func74,ntmps74;go_wp2_with fail;obtain⟨w1,hr,hown0,d⟩:=run_make_own (P:=prog) w w.heap.size 25 5 i8 (.int .u8 0) 1 underlying25 tA M lK .i64 .i64 N (by rw[nC];omega) (am oP P8) (ag _);have q:r7 w w1:=⟨d.os,d.tape,d.output,d.size,λk p=>d.block k p Oc⟩;have J:=F hown0;clear hown0;have B:=F q;clear q d;rw[hr];clear hr;go_wp2_with fail
 go_loopw [3,11] (λov iv wr=>∃(k:Nat),k<=N/\iv=.int .i64 k/\Hid (wr.ownsRow w.heap.size 5 1 ov (iI (l.take k)).length (Lib.byteCells (iI (l.take k))))/\Hid (r7 w wr)) (λ_ i _=>N-(intOf i).toNat)
 exact⟨0,M0,Oc,J.o,B.o⟩
 obtain⟨k,p,rfl,n,HB⟩:=hrel;by_cases hlt:k<N
 ·have mf:k<s.size:=by omega
  have x:k<l.length:=by have:=R.o;omega
  have X:=iV.o k mf x;have c:=Hc x;have j:=zi (l.take k);rw[aD]at j;have hwz:w.heap.size<=wr.heap.size:=HB.o.size;have g:=λo:O=>(dR o l[k]).symm;obtain⟨f,hX⟩:=V (G l[k]:Int);rw[<-hX]at X c g;clear hX;obtain⟨o,ho⟩:=V (iI (l.take k));rw[<-ho]at c j n;obtain⟨al,e⟩:=V (o.length);have hown:=n.o;rw[<-e]at hown j;have L:=F hown;clear hown n ho;by_cases m:f=9\/f=10\/f=13
  ·rw[ge m]at c
   have Kd:=F (show wr.ownsRow w.heap.size 5 1 _ (iI (l.take (k+1))).length (Lib.byteCells (iI (l.take (k+1)))) by rw[c,<-e];exact L.o);clear c e g j L;rcases m with rfl|rfl|rfl
   all_goals
    go_wp2_with fail;go_roundw
    exact⟨k+1,M0,Oc,Kd.o,HB.o⟩
    exact aa
  rw[gc m]at c;obtain⟨uh,mW,D⟩:=cZ c e (g o);have e9:(f==9)=false:=by simpa using λh=>m (.inl h)
  have e10:(f==10)=false:=by simpa using λh=>m (.inr (.inl h))
  have e13:(f==13)=false:=by simpa using λh=>m (.inr (.inr h))
  clear c e g m
  go_wp2_with(at_builtin;(refine et rfl 18 20 _ rfl w.heap.size 5 i8 (.int .u8 0) 1 underlying25 tA M lK nC P8 _ _ _ (Lib.byteCells o) rfl L.o (.int .u8 f) rfl rfl M0 P8 M0 ?_);intro v2 w2 hown2 hw2 r;have eJ:=F hown2;clear hown2;have C:=F r;clear r)
  go_roundw
  ·refine⟨k+1,M0,Oc,?_,HB.o.trans C.o⟩;have h:=eJ.o;rw[uh.o,ae,<-mW.o,<-D.o];exact h
  ·simp[intOf];omega
 obtain rfl:k=N:=M0;have c:l.take k=l:=aP (by have:=R.o;omega);rw[c]at n;have kc:=jq (P:=prog) underlying25 underlying5 underlying9 n.o;obtain⟨t,HT⟩:=ey (E (iI l));rw[<-HT.o]at kc;clear n c;go_wp2_with fail;go_ret;exact⟨by rw[HT.o];rfl,HB.o⟩
theorem sN(l:O):(trimF l).length<=l.length:=by
 rw[JK];obtain⟨a,c⟩:=jW jd l;have Y:=congrArg List.length c;rw[ae]at Y;unfold Es;rw[fc];obtain⟨b,U⟩:=jW jd (l.dropWhile jd).reverse;have I:=congrArg List.length U;rw[ae,fc]at I;omega
theorem yi(l:O)(w:H)(i:l.length<=1024000000):bF prog 44 #[.string (E l)] w (S (eN l)):=by
 have Y:=λW=>Ss l W i;have I:=λW=>Mz (trimF l) W (by have:=sN l;omega);obtain⟨s,d,t,f⟩:=ac (E l) (E (trimF l));obtain⟨r,h⟩:=ey (E (eN l));have H1:=fo (∀W,bP prog 75 #[.string s] W (.string t)) (by rw[d,f];exact Y);have g:=fo (∀W,bF prog 74 #[.string t] W (.string r)) (by rw[f,h.o];exact I);rw[<-d];clear d f Y I;go_enter func44,ntmps44
 go_wp2_with(first|(go_at_call 75;refine(H1.o _).e ?_)|(go_at_call 74;refine(g.o _).k λw3 HB=>?_))
 go_ret;exact⟨by rw[h.o];rfl,HB.o⟩

theorem OI(c:Int):(fg c 10<0)=¬(48<=c/\c<=57):=by
 have h:=Iy c;unfold fg at *;simp only at *;by_cases Y:48<=c/\c<=57
 ·rw[ge Y]at *
  simp[Y]
  split <;>omega
 rw[gc Y]at *;simp only[Y,not_false_eq_true,eq_iff_iff,iff_true]
 split <;>(try split) <;>(try split) <;>omega
theorem a0N{l:O}{k:Nat}(h:k<l.length):(l.drop k).all (λy=>pr (G y))=(pr (G l[k])&&(l.drop (k+1)).all (λy=>pr (G y))):=by
 rw[aC h,a4I]
theorem GD(l:O)(w:H)(hl:l.length<=1024000000):bP prog 73 #[.string (E l)] w (.bool (wH l)):=by
 obtain⟨s,K⟩:=V (E l);have v:s.size=l.length:=by rw[K,aF]
 have n:∀k (hk:k<s.size) (B:k<l.length),((s[k]'hk).toNat:Int)=G l[k]:=λk hk B=>cy K hk B;have hemp:(s.toList=[]) ↔ l=[]:=by rw[K,aB]
 rw[<-K];clear K;obtain⟨N,hN⟩:=V (s.size);have iP:s.size=N:=hN.symm;have oP:N<=1024000000:=M0;by_cases hnil:l=[]
 ·have he:=hemp.mpr hnil
  have he1:s.toList.isEmpty=true:=by rw[he];rfl
  have HR:=F (show wH l=false by rw[hnil];rfl);clear hemp n v hl hN hnil;go_enter func73,ntmps73;go_wp2_with fail;go_ret;exact⟨by rw[HR.o];rfl,rfl⟩
 have he:¬s.toList=[]:=λh=>hnil (hemp.mp h);have he1:s.toList.isEmpty=false:=by simpa using he
 have hpos:0<l.length:=eo.mpr hnil;have Nd:0<s.size:=M0;have hx0:=n 0 Nd hpos
 have q:wH l=(iQ (G l[0])&&(l.drop 1).all λy=>pr (G y)):=by
  cases l with
  |nil=>cases hpos
  |cons c t=>rfl
 have h0N:(0:Int)<N:=M0;rw[iP]at Nd;obtain⟨X',hX⟩:=V (G l[0]);rw[<-hX]at hx0 q;obtain⟨R,HR⟩:=ey ((l.drop 1).all λy=>pr (G y));rw[<-HR.o]at q;obtain⟨M,iV,eM,L⟩:=dT (λW=>kD X' W) n v q;clear hemp n v hl hN hnil hpos hX q;cases hq:iQ X' with
 |false =>
  rw[hq]at M L;go_enter func73,ntmps73
  go_wp2_with(go_at_call 117;refine(M.o _).e ?_)
  go_ret;exact⟨by rw[L.o];rfl,rfl⟩
 |true =>
  rw[hq]at M L;go_enter func73,ntmps73
  go_wp2_with(go_at_call 117;refine(M.o _).m ?_;rintro e w2⟨rfl,hw⟩;subst hw)
  obtain⟨w3,x⟩:=V (w2);have HW:=F x;rw[<-x];clear x
  go_loopw [3] (λiv wr=>∃(k:Nat),1<=k/\k<=N/\iv=.int .i64 k/\Hid ((l.drop k).all (λy=>pr (G y))=R)/\w3=wr) (λi _=>N-(intOf i).toNat)
  exact⟨1,M0,M0,Oc,HR.o.symm,rfl⟩
  obtain⟨k,hk1,hk,rfl,hd,rfl⟩:=hrel;by_cases hlt:k<N
  ·have mf:k<s.size:=by omega
   have C:k<l.length:=by have:=eM.o;omega
   have X:=iV.o k mf C;have d:=a0N C;rw[hd.o]at d;have hr:=jL l[k];have hle:=λW=>kD (G l[k]) W;have p:=λW=>dm (G l[k]) 10 W hr M0;have g:=OI (G l[k]);generalize G l[k]=j at X d hle p hr g;clear hd;generalize fg j 10=D at p g;have rN:=F p;clear p;have z:=F hle;clear hle;obtain⟨T,TL⟩:=ey ((l.drop (k+1)).all λy=>pr (G y));rw[<-TL.o]at d;unfold pr at d;cases J:iQ j with
   |true =>
    rw[J]at d z;have f:=F (show R=T by rw[d];simp);clear d g
    go_wp2_with(go_at_call 117;refine(z.o _).e ?_)
    go_roundw
    exact⟨k+1,M0,M0,Oc,(TL.o.symm.trans f.o.symm),by trivial⟩
    exact aa
   |false =>
    rw[J]at d z;by_cases hdig:48<=j/\j<=57
    ·have hD:¬D<0:=by rw[g];simp[hdig]
     have f:=F (show R=T by rw[d];simp[hdig]);clear d g hdig
     go_wp2_with(first|(go_at_call 117;refine(z.o _).e ?_)|(go_at_call 93;refine(rN.o _).e ?_))
     go_roundw
     exact⟨k+1,M0,M0,Oc,(TL.o.symm.trans f.o.symm),by trivial⟩
     exact aa
    have hD:D<0:=by rw[g];exact hdig
    by_cases r:j=43\/j=45\/j=46
    ·have f:=F (show R=T by rw[d];rcases r with h|h|h <;>simp[h])
     clear d g hdig;rcases r with rfl|rfl|rfl
     all_goals
      go_wp2_with(first|(go_at_call 117;refine(z.o _).e ?_)|(go_at_call 93;refine(rN.o _).e ?_))
      go_roundw
      exact⟨k+1,M0,M0,Oc,(TL.o.symm.trans f.o.symm),by trivial⟩
      exact aa
    have f:=F (show R=false by rw[d];simp[hdig];intro h;exact absurd h r);have e1:(j != 43)=true:=by simpa using λh=>r (.inl h)
    have e2:(j != 45)=true:=by simpa using λh=>r (.inr (.inl h))
    have e3:(j != 46)=true:=by simpa using λh=>r (.inr (.inr h))
    clear d g hdig r
    go_wp2_with(first|(go_at_call 117;refine(z.o _).e ?_)|(go_at_call 93;refine(rN.o _).e ?_))
    go_ret;exact⟨by rw[L.o,f.o];rfl,HW.o⟩
  obtain rfl:k=N:=M0;have hdr:l.drop k=[]:=bE (by have:=eM.o;omega);have u:=hd.o;rw[hdr]at u;have f:=fo (true=R) u;clear u hd;go_wp2_with fail;go_ret;exact⟨by rw[L.o,<-f.o];rfl,HW.o⟩

theorem E6(c:UInt8)(n:Nat)(h:n<256):(c==UInt8.ofNat n)=decide (G c=n):=by
 have e:G (UInt8.ofNat n)=n:=by
  unfold G;rw[fB];omega
 rw[bX,beq_iff_eq,gx];exact⟨λh=>by rw[h,e],λh=>eX (h.trans e.symm)⟩
theorem ym(a b:UInt8):dJ [a,b]=(iQ (G a)&&(decide (G b=58)||decide (G b=124))):=by
 show(iQ (G a)&&(b==58||b==124))=_;rw[show(b==58)=decide (G b=58)from E6 b 58 P8,show(b==124)=decide (G b=124)from E6 b 124 P8]
theorem Q0(a b:UInt8):jN [a,b]=(iQ (G a)&&decide (G b=58)):=by
 show(iQ (G a)&&b==58)=_;rw[show(b==58)=decide (G b=58)from E6 b 58 P8]
theorem He{l:O}(h:l.length=2):∃a b,l=[a,b]:=by
 match l,h with
 | [a,b],_=>exact⟨a,b,rfl⟩
theorem qL{l:O}(h:l.length≠2):dJ l=false/\jN l=false:=by
 match l,h with
 | [],_=>exact⟨rfl,rfl⟩
 | [_],_=>exact⟨rfl,rfl⟩
 | [_,_],h=>exact absurd rfl h
 |_::_::_::_,_=>exact⟨rfl,rfl⟩
theorem oM(l:O)(w:H)(x:l.length<=1024000000):bP prog 202 #[.string (E l)] w (.bool (dJ l)):=by
 obtain⟨s,p⟩:=V (E l);have f:s.size=l.length:=by rw[p,aF]
 have d:∀k (q:k<s.size) (h:k<l.length),((s[k]'q).toNat:Int)=G l[k]:=λk q h=>cy p q h;rw[<-p];clear p;by_cases I:l.length=2
 ·obtain⟨a,b,rfl⟩:=He I
  have B:s.size=2:=f;have t:0<s.size:=M0;have Y:1<s.size:=M0;have hx0:((s[0]'t).toNat:Int)=G a:=d 0 t (b1p _);have hx1:((s[1]'Y).toNat:Int)=G b:=d 1 Y (bV 1);have hd:=ym a b;have g:=F<|λW=>kD (G a) W;generalize G a=z at *;generalize G b=n at *;generalize dJ [a,b]=R at hd⊢;clear d f I x;cases y:iQ z with
  |false =>
   rw[y]at g hd;have c:=F hd;clear hd;go_enter func202,ntmps202
   go_wp2_with(go_at_call 117;refine(g.o _).e ?_)
   go_ret;exact⟨by rw[c.o];rfl,rfl⟩
  |true =>
   rw[y]at g hd;by_cases i:n=58
   ·have c:=F (show R=true by rw[hd];simp[i]);clear hd
    subst i;go_enter func202,ntmps202
    go_wp2_with(go_at_call 117;refine(g.o _).e ?_)
    go_ret;exact⟨by rw[c.o];rfl,rfl⟩
   have q58:(n==58)=false:=by simpa using i
   by_cases j:n=124
   ·have c:=F (show R=true by rw[hd];simp[j]);clear hd
    subst j;go_enter func202,ntmps202
    go_wp2_with(go_at_call 117;refine(g.o _).e ?_)
    go_ret;exact⟨by rw[c.o];rfl,rfl⟩
   have b46:(n==124)=false:=by simpa using j
   have c:=F (show R=false by rw[hd];simp[i,j]);clear hd;go_enter func202,ntmps202
   go_wp2_with(go_at_call 117;refine(g.o _).e ?_)
   go_ret;exact⟨by rw[c.o];rfl,rfl⟩
 have c:=F (qL I).1;obtain⟨N,u⟩:=V (s.size);have B:s.size=N:=u.symm
 have hn:((N:Int)==2)=false:=by
  have:(N:Int)≠2:=M0
  simpa using this
 clear d I f x u;go_enter func202,ntmps202;go_wp2_with fail;go_ret;exact⟨by rw[c.o];rfl,rfl⟩
theorem An(l:O)(w:H)(v:l.length<=1024000000):bP prog 162 #[.string (E l)] w (.bool (jN l)):=by
 have f:=λW=>oM l W v;obtain⟨s,t⟩:=V (E l);have g:s.size=l.length:=by rw[t,aF]
 have d:∀k (u:k<s.size) (i:k<l.length),((s[k]'u).toNat:Int)=G l[k]:=λk u i=>cy t u i;rw[<-t]at f⊢;clear t;have c:=F f;clear f;by_cases I:l.length=2
 ·obtain⟨a,b,rfl⟩:=He I
  have iP:s.size=2:=g;have Y:1<s.size:=M0;have hx1:((s[1]'Y).toNat:Int)=G b:=d 1 Y (bV 1);have hd:=ym a b;have j:=Q0 a b;rw[hd]at c;generalize G a=B at *;generalize G b=p at *;generalize jN [a,b]=R at j⊢;clear d g I v hd;generalize iQ B=q at *;by_cases n:p=58
  ·subst n
   have h:=F (show R=q by rw[j];simp);clear j;cases q
   all_goals
    go_enter func162,ntmps162
    go_wp2_with(go_at_call 202;refine(c.o _).e ?_)
    go_ret;exact⟨by rw[h.o];rfl,rfl⟩
  have q58:(p==58)=false:=by simpa using n
  have h:=F (show R=false by rw[j];simp[n]);clear j;obtain⟨r,y⟩:=V ((q&&(decide (p=58)||decide (p=124))));rw[<-y]at c;clear y n;cases r
  all_goals
   go_enter func162,ntmps162
   go_wp2_with(go_at_call 202;refine(c.o _).e ?_)
   go_ret;exact⟨by rw[h.o];rfl,rfl⟩
 rw[(qL I).1]at c;have h:=F (qL I).2;clear d I g v;go_enter func162,ntmps162
 go_wp2_with(go_at_call 202;refine(c.o _).e ?_)
 go_ret;exact⟨by rw[h.o];rfl,rfl⟩

theorem zh{l:O}(h:l.length<2\/dJ (l.take 2)=false):fx l=false:=by
 match l,h with
 | [],_=>rfl
 | [_],_=>rfl
 | [a,b],h =>
  rcases h with h|h
  ·simp at h
  exact h
 |a::b::c::r,h =>
  rcases h with h|h
  ·simp at h;omega
  show(dJ [a,b]&&_)=false;rw[show dJ [a,b]=false from h];rfl
theorem G6{l:O}(h:l.length=2)(hd:dJ (l.take 2)=true):fx l=true:=by
 obtain⟨a,b,rfl⟩:=He h;exact hd
theorem DQ{l:O}(h:2<l.length)(hd:dJ (l.take 2)=true):fx l=iO [47,92,63,35] (G (l[2]'h)):=by
 match l,h,hd with
 |a::b::c::r,_,hd =>
  show(dJ [a,b]&&(c==47||c==92||c==63||c==35))=iO [47,92,63,35] (G c);rw[show dJ [a,b]=true from hd,Ev];have key:∀k:Fin 256,(UInt8.ofNat k.val==47||UInt8.ofNat k.val==92||UInt8.ofNat k.val==63||UInt8.ofNat k.val==35)=iO [47,92,63,35] (G (UInt8.ofNat k.val)):=by decide +kernel
  have:=key ⟨c.toNat,c.toNat_lt⟩
  simpa using this
theorem wP(l:O)(w:H)(u:l.length<=1024000000):bP prog 163 #[.string (E l)] w (.bool (fx l)):=by
 have f:=λW=>oM (l.take 2) W (by rw[aD];omega);obtain⟨s,q⟩:=V (E l);have g:s.size=l.length:=by rw[q,aF]
 have d:∀k (B:k<s.size) (p:k<l.length),((s[k]'B).toNat:Int)=G l[k]:=λk B p=>cy q B p;have hex:s.extract 0 2=E (l.take 2):=by rw[q];exact nY l 2
 rw[<-q];clear q;obtain⟨N,n⟩:=V (s.size);have iP:s.size=N:=n.symm;have v:N=l.length:=M0;obtain⟨t,r⟩:=V (E (l.take 2));rw[<-r]at f hex;by_cases I:N<2
 ·have j:=F<|zh (l:=l) (.inl M0)
  clear d hex f r n g u v;go_enter func163,ntmps163;go_wp2_with fail;go_ret;exact⟨by rw[j.o];rfl,rfl⟩
 have h2i:(2:Int)<=N:=M0;have c:=F f;clear f;cases hd:dJ (l.take 2)with
 |false =>
  rw[hd]at c;have j:=F<|zh (l:=l) (.inr hd);clear d r n g u v hd;go_enter func163,ntmps163
  go_wp2_with(go_at_call 202;refine(c.o _).e ?_)
  go_ret;exact⟨by rw[j.o];rfl,rfl⟩
 |true =>
  rw[hd]at c;by_cases hq:N=2
  ·have j:=F<|G6 (l:=l) M0 hd
   have C:((N:Int)==2)=true:=by rw[hq];rfl
   clear d r n g u v hd;subst hq;go_enter func163,ntmps163
   go_wp2_with(go_at_call 202;refine(c.o _).e ?_)
   go_ret;exact⟨by rw[j.o];rfl,rfl⟩
  have M:2<l.length:=M0;have z:2<s.size:=M0;have X:=d 2 z M;have D:=DQ M hd;obtain⟨x,nB⟩:=V (l[2]);rw[<-nB]at X D;have i:=λW=>Any.strings_IndexByte laysIB ⟨#[47,92,63,35]⟩ (G x) W;rw[show(⟨#[47,92,63,35]⟩:ByteArray).data.toList=[47,92,63,35]from rfl,show(G x).toNat.toUInt8=x by simp[G]]at i;have y:∀W,bP prog 98 #[.string ⟨#[47,92,63,35]⟩,.int .u8 (G x)] W (.int .i64 (Lib.indexByte [47,92,63,35] x)):=i;have hi:=oe [47,92,63,35] x;generalize Lib.indexByte [47,92,63,35] x=K at y hi;rw[<-D]at hi;generalize fx l=R at hi⊢;generalize G x=X' at *;have L:=F y
  have C:((N:Int)==2)=false:=by
   have:(N:Int)≠2:=M0
   simpa using this
  have h3i:(2:Int)<N:=M0;have h3n:2<N:=M0;clear d r n g u v hd i y D nB;cases R with
  |true =>
   have hI:0<=K:=hi.mpr rfl;clear hi;go_enter func163,ntmps163
   go_wp2_with(first|(go_at_call 202;refine(c.o _).e ?_)|(go_at_call 98;refine(L.o _).e ?_))
   go_ret;exact⟨eA Oc,rfl⟩
  |false =>
   have hI:¬ 0<=K:=λh=>by have:=hi.mp h;cases this
   clear hi;go_enter func163,ntmps163
   go_wp2_with(first|(go_at_call 202;refine(c.o _).e ?_)|(go_at_call 98;refine(L.o _).e ?_))
   go_ret;exact⟨eA (by simp;omega),rfl⟩
theorem Vy:∀k:Fin 256,(dK (UInt8.ofNat k.val)=37 ↔ UInt8.ofNat k.val=37)/\(dK (UInt8.ofNat k.val)=50 ↔ UInt8.ofNat k.val=50)/\(dK (UInt8.ofNat k.val)=101 ↔ (UInt8.ofNat k.val=101\/UInt8.ofNat k.val=69)):=by decide +kernel
theorem QS(c:UInt8):(dK c=37 ↔ c=37)/\(dK c=50 ↔ c=50)/\(dK c=101 ↔ (c=101\/c=69)):=by
 have:=Vy ⟨c.toNat,c.toNat_lt⟩
 simpa using this
theorem N5(l:O):im l=if l.head? = some 46 then some (l.drop 1)else if 3<=l.length/\(l.take 3).map dK=[37,50,101]then some (l.drop 3)else none:=by
 match l with
 | []=>rfl
 |c::t =>
  by_cases d:c=46
  ·subst d
   rw[E4,ge r5];rfl
  rw[gc (by simpa using d)]
  match t with
  | [] =>
   rw[gc Oc];unfold im;dsimp only;rw[gc d]
   split
   ·next h=>cases h
   rfl
  | [x] =>
   rw[gc Oc];unfold im;dsimp only;rw[gc d]
   split
   ·next h=>cases h
   rfl
  |x::y::r =>
   have e:((c::x::y::r).take 3).map dK=[dK c,dK x,dK y]:=rfl;rw[e];obtain⟨i,_,_⟩:=QS c;obtain⟨_,j,_⟩:=QS x;obtain⟨_,_,k⟩:=QS y;by_cases f:c=37
   ·by_cases g:x=50
    ·subst f;subst g
     rw[oK];by_cases hy:y=101\/y=69
     ·rw[ge hy,ge ⟨Oc,by rw[i.mpr rfl,j.mpr rfl,k.mpr hy]⟩]
      rfl
     rw[gc hy,gc (λh=>hy (k.mp (by injection h.2 with _ h;injection h with _ h;injection h)))]
    subst f;rw[nM g,gc (λh=>g (j.mp (by injection h.2 with _ h;injection h)))]
   rw[kf d f,gc (λh=>f (i.mp (by injection h.2)))]
theorem Io(l:O)(w:H)(hl:l.length<=1024000000):bF prog 230 #[.string (E l)] w (.tuple #[S ((im l).getD []),.bool (im l).isSome]):=by
 have y:=λW=>mE l [46] W;rw[show E [46]=⟨#[46]⟩from rfl]at y
 have D:Lib.hasPrefix l [46]=decide (l.head? = some 46):=by
  cases l with
  |nil=>rfl
  |cons x r =>
   show((46==x)&&true)=_;rw[nk,bX];simp only[beq_iff_eq,oI,ly,gx];exact eq_comm
 rw[D]at y;have hlow:=λW=>qD (l.take 3) W (by unfold maxLen;rw[aD];omega);have d:=N5 l;obtain⟨R,hR⟩:=V (im l);rw[<-hR]at d⊢;obtain⟨s,v⟩:=V (E l);have J:s.size=l.length:=by rw[v,aF]
 have C:s.extract 0 3=E (l.take 3):=by rw[v];exact nY l 3
 have j:s.extract 1 s.size=E (l.drop 1):=by rw[v];exact gn l 1 _ (aF l)
 have k:s.extract 3 s.size=E (l.drop 3):=by rw[v];exact gn l 3 _ (aF l)
 rw[<-v]at y⊢;clear v D hR;obtain⟨N,M⟩:=V (s.size);have iP:s.size=N:=M.symm;rw[iP]at j k;have L:N=l.length:=M0;obtain⟨t,ht⟩:=V (E (l.take 3));rw[<-ht]at C hlow
 have g:l.head? = some 46->1<=N:=λh=>by
  cases l with
  |nil=>cases h
  |cons c r=>rw[L];simp
 rw[<-L]at d;generalize (l.take 3).map dK=m at d hlow;generalize l.drop 1=d1 at d j;generalize l.drop 3=d3 at d k;obtain⟨q,K⟩:∃q:Prop,q=(l.head? = some 46):=⟨_,rfl⟩;rw[<-K]at g;have B:=F y;have u:=fo (∀W,bF prog 19 #[.string t] W (S m)) hlow;by_cases f:l.head? = some 46
 ·rw[ge f]at d
  rw[gr f]at B;have hN1:1<=N:=g (K▸f);have UY:(1:Int)<=N:=M0;have i:=F d;clear y d hlow ht M J hl L K g f C k;go_enter func230,ntmps230
  go_wp2_with(go_at_call 83;refine(B.o _).e ?_)
  go_ret2
  exact⟨by rw[i.o];rfl,bg _⟩
 rw[gc f]at d;rw[gh f]at B;clear y hlow ht M J hl L K g f j;by_cases h3:3<=N
 ·have h3i:(3:Int)<=N:=by omega
  have he:=rI m [37,50,101];by_cases hm:m=[37,50,101]
  ·rw[ge ⟨h3,hm⟩]at d
   rw[gr hm]at he;have i:=F d;clear d hm;rw[aB,aB]at he;have n:((E m).toList == [37,50,101])=true:=by rw[aB];exact he
   obtain⟨z,p⟩:=V (E m);rw[<-p]at n;replace u:=fo (∀W,bF prog 19 #[.string t] W (.string z)) (by rw[p];exact u.o);clear p he;go_enter func230,ntmps230
   go_wp2_with(first|(go_at_call 83;refine(B.o _).e ?_)|(go_at_call 19;refine(u.o _).k λw3 HB=>?_))
   go_ret2
   exact⟨by rw[i.o];rfl,HB.o⟩
  rw[gc (λh=>hm h.2)]at d;rw[gh hm]at he;have i:=F d;clear d hm;rw[aB,aB]at he;have n:((E m).toList == [37,50,101])=false:=by rw[aB];exact he
  obtain⟨z,p⟩:=V (E m);rw[<-p]at n;replace u:=fo (∀W,bF prog 19 #[.string t] W (.string z)) (by rw[p];exact u.o);clear p he;go_enter func230,ntmps230
  go_wp2_with(first|(go_at_call 83;refine(B.o _).e ?_)|(go_at_call 19;refine(u.o _).k λw3 HB=>?_))
  go_ret2
  exact⟨by rw[i.o];rfl,HB.o⟩
 rw[gc (λh=>h3 h.1)]at d;have i:=F d;clear d;go_enter func230,ntmps230
 go_wp2_with(go_at_call 83;refine(B.o _).e ?_)
 go_ret2
 exact⟨by rw[i.o];rfl,bg _⟩
theorem b8h(l:O)(w:H)(q:l.length<=1024000000):bF prog 207 #[.string (E l)] w (.bool (kC l)):=by
 have U:=λW=>Io l W q;obtain⟨R,f⟩:=V (kC l);rw[<-f];unfold kC at f;generalize E l=s at *;generalize im l=b at *;cases b with
 |none =>
  have HB:=fo (∀W,bF prog 230 #[.string s] W (.tuple #[.string ⟨#[]⟩,.bool false])) U;have i:=fo (R=false) f;clear U f;go_enter func207,ntmps207
  go_wp2_with(go_at_call 230;refine(HB.o _).k λp j=>?_)
  go_ret;exact⟨by rw[i.o];rfl,j.o⟩
 |some r =>
  obtain⟨z,n⟩:=V (E r);have HB:=fo (∀W,bF prog 230 #[.string s] W (.tuple #[.string z,.bool true])) (by rw[n];exact U);have d:z.toList=[] ↔ r=[]:=by rw[n,aB]
  have c:R=decide (r=[]):=by
   rw[f,bX,gx];simp
  clear U f n;by_cases g:r=[]
  ·have he:=d.mpr g
   have k:z.toList.isEmpty=true:=by rw[he];rfl
   have i:=F (show R=true by rw[c,gr g]);clear d c g;go_enter func207,ntmps207
   go_wp2_with(go_at_call 230;refine(HB.o _).k λp j=>?_)
   go_ret;exact⟨by rw[i.o];rfl,j.o⟩
  have he:¬z.toList=[]:=λh=>g (d.mp h);have k:z.toList.isEmpty=false:=by simpa using he
  have i:=F (show R=false by rw[c,gh g]);clear d c g;go_enter func207,ntmps207
  go_wp2_with(go_at_call 230;refine(HB.o _).k λp j=>?_)
  go_ret;exact⟨by rw[i.o];rfl,j.o⟩
theorem Ug{l r:O}(h:im l=some r):r.length<=l.length:=by
 rw[N5]at h
 split at h
 ·injection h with h
  rw[<-h,aj];omega
 split at h
 ·injection h with h
  rw[<-h,aj];omega
 cases h
theorem OQ(l:O)(w:H)(p:l.length<=1024000000):bF prog 205 #[.string (E l)] w (.bool (jC l)):=by
 have U:=λW=>Io l W p;have d:=λr (h:im l=some r)=>Ug h;obtain⟨R,f⟩:=V (jC l);rw[<-f];unfold jC at f;generalize E l=s at *;generalize im l=b at *;cases b with
 |none =>
  have HB:=fo (∀W,bF prog 230 #[.string s] W (.tuple #[.string ⟨#[]⟩,.bool false])) U;have g:=fo (R=false) f;clear U f d;go_enter func205,ntmps205
  go_wp2_with(go_at_call 230;refine(HB.o _).k λt i=>?_)
  go_ret;exact⟨by rw[g.o];rfl,i.o⟩
 |some r =>
  have c:=λW=>b8h r W (by have:=d r rfl;omega);obtain⟨z,k⟩:=V (E r);have HB:=fo (∀W,bF prog 230 #[.string s] W (.tuple #[.string z,.bool true])) (by rw[k];exact U);rw[<-k]at c;have n:=F c;have g:=fo (R=kC r) f;clear U f k c d;generalize kC r=q at n g;go_enter func205,ntmps205
  go_wp2_with(first|(go_at_call 230;refine(HB.o _).k λt i=>?_)|(go_at_call 207;refine(n.o _).k λw3 U=>?_;have j:=F<|dw i.o U.o;clear U))
  go_ret;exact⟨by rw[g.o];rfl,j.o⟩

theorem a5s{sp:Bool}{l:O}{k:Nat}(h:k<l.length):uE sp (l.drop k)=if lS sp l[k]=true then 1+uE sp (l.drop (k+1))else 0:=by
 unfold uE;rw[aC h];cases hp:lS sp l[k]with
 |true=>rw[bJ hp,ge rfl,cz];omega
 |false=>rw[bI (by simp[hp]),gc Oc];rfl
theorem AT(sp:Bool)(l:O):uE sp l<=l.length:=(List.takeWhile_sublist _).length_le
theorem k9(aJ l:O)(w:H)(hl:l.length<=1024000000):bP prog 160 #[.string (E aJ),.string (E l)] w (.int .i64 (uE (eU aJ) l)):=by
 have r:=λW=>gl aJ W;generalize eU aJ=sp at *;generalize E aJ=c at *;have ji:=F r;clear r;obtain⟨R,HR⟩:=ey (uE sp l);rw[<-HR.o];obtain⟨s,x⟩:=V (E l);have t:s.size=l.length:=by rw[x,aF]
 have n:∀k (v:k<s.size) (p:k<l.length),((s[k]'v).toNat:Int)=G l[k]:=λk v p=>cy x v p;rw[<-x];clear x;obtain⟨N,L⟩:=V (s.size);have iP:s.size=N:=L.symm;have oP:N<=1024000000:=M0;have iV:=F n;clear n;have K:=F t;clear t hl L;go_enter func160,ntmps160
 go_wp2_with(go_at_call 119;refine(ji.o _).m ?_;rintro e w2⟨rfl,hw⟩;subst hw)
 obtain⟨w3,j⟩:=V (w2);have y:=F j;rw[<-j];clear j
 go_loopw [6] (λiv wr=>∃k:Nat,k<=N/\iv=.int .i64 k/\Hid (k+uE sp (l.drop k)=R)/\w3=wr) (λi _=>N-(intOf i).toNat)
 exact⟨0,M0,Oc,(by rw[HR.o];show 0+uE sp (List.drop 0 l)=_;simp),rfl⟩
 obtain⟨k,v,rfl,hd,rfl⟩:=hrel;by_cases hlt:k<N
 ·have mf:k<s.size:=by omega
  have q:k<l.length:=by have:=K.o;omega
  have X:=iV.o k mf q;have d:=a5s (sp:=sp) q;rw[slP_b]at d;have f:=hd.o;obtain⟨T,J⟩:=ey (uE sp (l.drop (k+1)));rw[<-J.o]at d;generalize G l[k]=u at X d;clear hd;by_cases h:u=47
  ·subst h
   have g:=F (show k+1+T=R by rw[ge Oc]at d;omega);clear d f;go_wp2_with fail;go_roundw
   exact⟨k+1,M0,Oc,(by rw[<-J.o];exact g.o),by trivial⟩
   exact aa
  have q47:(u==47)=false:=by simpa using h
  cases sp with
  |false =>
   have g:=F (show k=R by rw[gc (by simp[h])]at d;omega);clear d f;go_wp2_with fail;go_ret;exact⟨by rw[<-g.o];rfl,y.o⟩
  |true =>
   by_cases z:u=92
   ·subst z
    have g:=F (show k+1+T=R by rw[ge Oc]at d;omega);clear d f;go_wp2_with fail;go_roundw
    exact⟨k+1,M0,Oc,(by rw[<-J.o];exact g.o),by trivial⟩
    exact aa
   have q92:(u==92)=false:=by simpa using z
   have g:=F (show k=R by rw[gc (by simp[h,z])]at d;omega);clear d f;go_wp2_with fail;go_ret;exact⟨by rw[<-g.o];rfl,y.o⟩
 obtain rfl:k=N:=M0;have D:l.drop k=[]:=bE (by have:=K.o;omega);have f:=hd.o;rw[D]at f;have g:=fo (k=R) f;clear f hd;go_wp2_with fail;go_ret;exact⟨by rw[<-g.o];rfl,y.o⟩
theorem pL(aJ l:O)(w:H)(n:l.length<=1024000000):bP prog 123 #[.string (E aJ),.string (E l)] w (S (l.drop (uE (eU aJ) l))):=by
 have d:=λW=>k9 aJ l W n;have hle:=AT (eU aJ) l;generalize uE (eU aJ) l=k at *;generalize E aJ=c at *;obtain⟨s,f⟩:=V (E l);have h:s.size=l.length:=by rw[f,aF]
 have hex:s.extract k s.size=E (l.drop k):=by rw[f];exact gn l k _ (aF l)
 rw[<-f]at d⊢;clear f;obtain⟨N,j⟩:=V (s.size);have q:s.size=N:=j.symm;rw[q]at hex;obtain⟨t,i⟩:=V (E (l.drop k));rw[<-i]at hex;have p:=F i;have g:=F d;have hki:(k:Int)<=N:=M0;have hkn:k<=N:=M0;clear d h n hle j i;go_enter func123,ntmps123
 go_wp2_with(go_at_call 160;refine(g.o _).e ?_)
 go_ret;exact⟨by rw[p.o];rfl,rfl⟩
theorem RV{sp:Bool}{p:O}(h:∀y∈p,lS sp y=false){c:UInt8}(d:lS sp c=true)(t:O):gE sp (p++c::t)=p::gE sp t:=by
 induction p with
 |nil=>rw[f9,gE,ge d]
 |cons x r e =>
  rw[dE,gE,gc (by rw[h x Oc];simp),e (λy hy=>h y (by simp[hy]))]
theorem DG(sp:Bool):∀l:O,(gE sp l).length<=l.length+1
 | []=>by simp[gE]
 |c::t=>by
  have:=DG sp t;rw[gE]
  split
  ·simp;omega
  split
  ·simp
  next h=>rw[h]at this;simp at this⊢;omega
theorem Jo{l:O}{f k:Nat}{y:UInt8}(h:y∈(l.drop f).take (k-f)):∃j,∃hj:j<l.length,f<=j/\j<k/\l[j]=y:=by
 obtain⟨i,hi,he⟩:=cC h;rw[aD,aj]at hi;rw[M8,M7]at he;exact⟨f+i,M0,M0,M0,he⟩
theorem GZ(l:O)(sp:Bool)(w:H)(hl:l.length<=1024000000):Calls prog 204 #[.string (E l),.bool sp] w (ga w 9 (Strs (gE sp l))):=by
 obtain⟨i1,B,D,J,L⟩:=info_parts lT;obtain⟨T,HT⟩:=ey (gE sp l);rw[<-HT.o];obtain⟨s,v⟩:=V (E l);have hsz:s.size=l.length:=by rw[v,aF]
 have hby:∀k (hk:k<s.size) (hk2:k<l.length),((s[k]'hk).toNat:Int)=G l[k]:=λk hk hk2=>cy v hk hk2;have hex:∀f k,s.extract f k=E ((l.drop f).take (k-f)):=λf k=>by rw[v,cd]
 rw[<-v];clear v;obtain⟨N,hN⟩:=V (s.size);have iP:s.size=N:=hN.symm;have oP:N<=1024000000:=M0;have iV:=F hby;clear hby;have MU:=F hex;clear hex;have eM:=F hsz;clear hsz hl hN;go_enter func204,ntmps204;go_wp2_with fail
 go_loopw [5,6,7] (λov fv iv wr=>∃(k f:Nat) (o:List O),k<=N/\f<=k/\o.length<=k/\iv=.int .i64 k/\fv=.int .i64 f/\Hid (wr.ownsRow w.heap.size 9 1 ov o.length (Strs o))/\Hid (o++gE sp (l.drop f)=T/\∀j (t:j<l.length),f<=j->j<k->lS sp l[j]=false)/\Hid (r7 w wr)) (λ_ _ i _=>N-(intOf i).toNat)
 exact⟨0,0,[],M0,M0,Oc,Oc,Oc,iZ _ _ _ _,⟨by rw[HT.o];rfl,λj _ _ h=>absurd h (cL j)⟩,gT _ _⟩
 obtain⟨k,f,o,hk,hfk,hol,rfl,rfl,HO,hinv,HB⟩:=hrel;have hwz:w.heap.size<=wr.heap.size:=HB.o.size;obtain⟨al,n⟩:=ey (o.length);have ho:=HO.o;rw[<-n.o]at ho hol;have eJ:=F ho;clear ho HO;by_cases hlt:k<N
 ·have mf:k<s.size:=by omega
  have hkl:k<l.length:=by have:=eM.o;omega
  have X:=iV.o k mf hkl;obtain⟨ZL,ZM⟩:=hinv.o;have U:=@slP_b sp l[k]
  have hmiss:lS sp l[k]=false->(o++gE sp (l.drop f)=T/\∀j (t:j<l.length),f<=j->j<k+1->lS sp l[j]=false):=λh=>⟨ZL,λj t Y I=>by
   rcases cI j k with h3|h3
   ·exact ZM j t Y h3
   obtain rfl:j=k:=M0;exact h⟩
  obtain⟨p,hp⟩:=V ((l.drop f).take (k-f))
  have hhit:lS sp l[k]=true->((o++[p])++gE sp (l.drop (k+1))=T/\∀j (t:j<l.length),k+1<=j->j<k+1->lS sp l[j]=false):=λh=>by
   refine⟨?_,λj _ Y I=>M0⟩
   have e:l.drop f=p++l[k]::l.drop (k+1):=by
    rw[hp,<-List.drop_eq_getElem_cons hkl];have:l.drop k=(l.drop f).drop (k-f):=by rw[qg];congr 1;omega
    rw[this,cT]
   have v:=RV (sp:=sp) (p:=p) (λy hy=>by
    rw[hp]at hy;obtain⟨j,t,Y,I,rfl⟩:=Jo hy;exact ZM j t Y I) h (l.drop (k+1))
   rw[<-e]at v;rw[<-ZL,v];simp
  have a4c:=MU.o f k;rw[<-hp]at a4c;have d:=jg o p;obtain⟨u,hu⟩:=V (E p);rw[<-hu]at a4c d;rw[U]at hmiss hhit;obtain⟨X',hX⟩:=V (G l[k]);rw[<-hX]at X hmiss hhit;obtain⟨R,M,mY⟩:=cZ hmiss hhit d;have hfs:f<=s.size:=M0;have a9u:(f:Int)<=k:=M0;have b4F:(k:Int)<=N:=M0;have hw1:IntKind.i64.wrap ((k:Int)+1)=((k+1:Nat):Int):=by rw[show(k:Int)+1=((k+1:Nat):Int) by omega];exact gS _ M0
  obtain⟨K,r⟩:=ey (k+1);rw[<-r.o]at hw1;clear hinv ZL ZM U hmiss hhit hp d hu hX;by_cases q:X'=47
  ·subst q
   have x:=F<|M.o Oc;clear R M
   go_wp2_with(at_builtin;(refine et rfl 27 32 _ rfl w.heap.size 9 i1 (.string ⟨#[]⟩) 16 underlying22 B D J L P8 _ _ _ (Strs o) rfl eJ.o (.string u) rfl rfl M0 P8 M0 ?_);intro v2 w2 hown2 hw2 c;have Kc:=F hown2;clear hown2;have m:=F c;clear c)
   go_roundw
   ·have g:=r.o;subst g;refine⟨k+1,k+1,o++[p],M0,M0,by rw[ae,<-n.o];simp;omega,r5,r5,?_,x.o,HB.o.trans m.o⟩;show World.ownsRow _ _ _ _ _ _ _;rw[mY.o,ae,<-n.o];exact Kc.o
   ·have:=r.o;simp[intOf];omega
  have q47:(X'==47)=false:=by simpa using q
  cases sp with
  |false =>
   have x:=F<|R.o (by simp[q]);clear R M;go_wp2_with fail;go_roundw
   ·have g:=r.o;subst g;exact⟨k+1,f,o,M0,M0,by rw[<-n.o];omega,r5,r5,by rw[<-n.o];exact eJ.o,x.o,HB.o⟩
   ·have:=r.o;simp[intOf];omega
  |true =>
   by_cases Px:X'=92
   ·subst Px
    have x:=F<|M.o Oc;clear R M
    go_wp2_with(at_builtin;(refine et rfl 27 32 _ rfl w.heap.size 9 i1 (.string ⟨#[]⟩) 16 underlying22 B D J L P8 _ _ _ (Strs o) rfl eJ.o (.string u) rfl rfl M0 P8 M0 ?_);intro v2 w2 hown2 hw2 c;have Kc:=F hown2;clear hown2;have m:=F c;clear c)
    go_roundw
    ·have g:=r.o;subst g;refine⟨k+1,k+1,o++[p],M0,M0,by rw[ae,<-n.o];simp;omega,r5,r5,?_,x.o,HB.o.trans m.o⟩;show World.ownsRow _ _ _ _ _ _ _;rw[mY.o,ae,<-n.o];exact Kc.o
    ·have:=r.o;simp[intOf];omega
   have q92:(X'==92)=false:=by simpa using Px
   have x:=F<|R.o (by simp[q,Px]);clear R M;go_wp2_with fail;go_roundw
   ·have g:=r.o;subst g;exact⟨k+1,f,o,M0,M0,by rw[<-n.o];omega,r5,r5,by rw[<-n.o];exact eJ.o,x.o,HB.o⟩
   ·have:=r.o;simp[intOf];omega
 obtain rfl:k=N:=M0;have hex:=MU.o f k;have C:(l.drop f).take (k-f)=l.drop f:=aP (by rw[aj];have:=eM.o;omega);rw[C]at hex;obtain⟨Y,I⟩:=hinv.o
 have hpc:gE sp (l.drop f)=[l.drop f]:=GT (λy hy=>by
  have hy2:y∈(l.drop f).take (k-f):=by rw[C];exact hy
  obtain⟨j,t,h3,h4,rfl⟩:=Jo hy2;exact I j t h3 h4)
 rw[hpc]at Y;have d:=jg o (l.drop f);rw[Y]at d;obtain⟨u,hu⟩:=V (E (l.drop f));rw[<-hu]at hex d;have mY:=F d;have zF:=F (show T.length=al+1 by rw[<-Y,ae,<-n.o];rfl);have hfs:f<=s.size:=M0;have a9u:(f:Int)<=k:=M0;clear hinv Y I hpc d hu C n
 go_wp2_with(at_builtin;(refine et rfl 36 40 _ rfl w.heap.size 9 i1 (.string ⟨#[]⟩) 16 underlying22 B D J L P8 _ _ _ (Strs o) rfl eJ.o (.string u) rfl rfl M0 P8 M0 ?_);intro v2 w2 hown2 hw2 c;have Kc:=F hown2;clear hown2;have m:=F c;clear c)
 go_ret;refine⟨_,rfl,?_,HB.o.trans m.o⟩;rw[ay,zF.o,mY.o];exact Kc.o

def P0:kW:=⟨false,[],[],false,[],false,[]⟩
abbrev aW(p:kW):Array Z:=#[.bool p.gR,S p.aJ,S p.rest,.bool p.bZ,S p.q,.bool p.cg,S p.f]
theorem mO:(prog.info? 91).map (·.size)=some 7:=Rz
theorem a27(w:H):(Instr.alloc 91 true (Value.tuple #[])).run prog w=.ok (.pointer (some ⟨w.heap.size,0,none⟩)) (w.alloc (.cells (aW P0) 91)):=Rz
theorem Ju{p:kW}:∀v∈(aW p).toList,v.oneCell'=true:=by
 intro v c;simp only[aK,cV,or_false]at c;rcases c with e|e|e|e|e|e|e <;>(rw[e];rfl)
theorem Rj{tmps:Array Z}{w d:H}{b:Nat}{p:kW}(I:tmps.getD 2 undef=.pointer (some ⟨b,0,none⟩))(i:OB w b 91 (aW p) d){R:kW}(f:p=R) :
  bodyPost prog f43 (λe h=>e=.returned (.agg (aW R))/\r7 w h) Exit.ret {tmps:=tmps,defers:=[]} d:=by
 subst f;have c:tmps[2]?.getD undef=.pointer (some ⟨b,0,none⟩):=by simpa using I
 have g:=i.load (P:=prog) 91 _ underlying91 rfl mO;refine bodyPost_ret (v:=.agg (aW p)) ?_ rfl ⟨rfl,i.bL⟩;simp[results,results43,asAddr,c,g]
theorem fD(c:UInt8)(s:O):(bQ c s).1.length<=s.length/\(bQ c s).2.1.length<=s.length:=by
 have h:=congrArg List.length (mn c s);rw[ae]at h;by_cases d:(bQ c s).2.2=true
 ·rw[ge d,cz]at h
  omega
 rw[gm c s (by simpa using d)];simp only[aO];omega
theorem za(s:O)(w:H)(hl:s.length<=1024000000)(hE:Env w):bF prog 43 #[.string (E s)] w (.agg (aW (fw s))):=by
 have j:fw s=if(bQ 58 (bQ 63 (bQ 35 s).1).1).2.2=true/\wH (bQ 58 (bQ 63 (bQ 35 s).1).1).1=true then⟨true,(bQ 58 (bQ 63 (bQ 35 s).1).1).1.map dK,(bQ 58 (bQ 63 (bQ 35 s).1).1).2.1,(bQ 63 (bQ 35 s).1).2.2,(bQ 63 (bQ 35 s).1).2.1,(bQ 35 s).2.2,(bQ 35 s).2.1⟩else⟨false,[],(bQ 63 (bQ 35 s).1).1,(bQ 63 (bQ 35 s).1).2.2,(bQ 63 (bQ 35 s).1).2.1,(bQ 35 s).2.2,(bQ 35 s).2.1⟩:=rfl;obtain⟨R,hR⟩:=V (fw s);rw[<-hR];rw[<-hR]at j;clear hR;have l1:=fD 35 s;have k1:=λ(W:H) (x:r7 w W)=>gK s [35] W hl (hE.below x);rw[yI]at k1;generalize bQ 35 s=C1 at *;obtain⟨a,f,g⟩:=C1;simp only at j l1 k1;have l2:=fD 63 a;have k2:=λ(W:H) (x:r7 w W)=>gK a [63] W M0 (hE.below x);rw[yI]at k2;generalize bQ 63 a=C2 at *;obtain⟨b,q,h⟩:=C2;simp only at j l2 k2;have l3:=fD 58 b;have k3:=λ(W:H) (x:r7 w W)=>gK b [58] W M0 (hE.below x);rw[yI]at k3;generalize bQ 58 b=C3 at *;obtain⟨c,d,hc⟩:=C3;simp only at j l3 k3;have kn:=λW=>GD c W M0;have kl:=λW=>qD c W (by unfold maxLen;omega);generalize wH c=sn at j kn;obtain⟨S0,u,SA,v⟩:=ac (E s) (E a);obtain⟨SB,HSB⟩:=ey (E b);obtain⟨SC,p⟩:=V (E c);obtain⟨K1,K2,K3,KN,KL⟩:=ec (show ∀W,r7 w W->bF prog 72 #[.string S0,.string ⟨#[35]⟩] W (.tuple #[.string SA,S f,.bool g])from by rw[u,v];exact k1) (show ∀W,r7 w W->bF prog 72 #[.string SA,.string ⟨#[63]⟩] W (.tuple #[.string SB,S q,.bool h])from by rw[v,HSB.o];exact k2) (show ∀W,r7 w W->bF prog 72 #[.string SB,.string ⟨#[58]⟩] W (.tuple #[.string SC,S d,.bool hc])from by rw[HSB.o,p];exact k3) (show ∀W,bP prog 73 #[.string SC] W (.bool sn)from by rw[p];exact kn) (show ∀W,bF prog 19 #[.string SC] W (S (c.map dK))from by rw[p];exact kl);rw[<-u];have YE:=F j;clear k1 k2 k3 kn kl u v p l1 l2 l3 j hl hE;generalize c.map dK=r at *;go_enter func43,ntmps43
 go_upto_region 2 with(refine aM rfl 91 rfl _ _ (a27 _) ?_)
 have h4:=OB.fresh w 91 (aW P0);obtain⟨k,y⟩:=V (w.alloc (.cells (aW P0) 91));rw[<-y]at h4⊢;have z:k.heap.size=w.heap.size+1:=by rw[y];simp
 have h6:=OB.fresh k 91 (aW P0);rw[z]at h6
 try rw[z]
 have N:=F h4;clear h4;clear y;generalize k.alloc (.cells (aW P0) 91)=w2 at h6⊢;have H6:=F h6;clear h6;have Hp:=fo (∀W,r7 k W->r7 w W) (λW x=>dw N.o.bL x);clear z
 go_upto_region 3 with(first|(go_at_call 72;refine(K1.o _ (Hp.o _ H6.o.bL)).k λw3 U=>?_;have J:=F<|H6.o.below U.o;clear U)|(refine ox rfl 9 13 11 rfl k (w.heap.size+1) 91 (aW P0) J.o 6 (S f) rfl rfl (show 6<7 by decide) bY.1 rfl (aW {P0 with f:=f}) rfl ?_;intro w4 i _ _;have SU:=F i;clear i)|(refine ox rfl 4 14 12 rfl k (w.heap.size+1) 91 (aW {P0 with f:=f}) SU.o 5 (.bool g) rfl rfl (show 5<7 by decide) bY.2.2 rfl (aW {P0 with f:=f,cg:=g}) rfl ?_;intro w5 i _ _;have Ns:=F i;clear i))
 clear H6 J SU
 go_upto_region 4 with(first|(go_at_call 72;refine(K2.o _ (Hp.o _ Ns.o.bL)).k λw6 U=>?_;have WO:=F<|Ns.o.below U.o;clear U)|(refine ox rfl 9 21 19 rfl k (w.heap.size+1) 91 (aW {P0 with f:=f,cg:=g}) WO.o 4 (S q) rfl rfl (show 4<7 by decide) bY.1 rfl (aW {P0 with f:=f,cg:=g,q:=q}) rfl ?_;intro w7 i _ _;have Tl:=F i;clear i)|(refine ox rfl 4 22 20 rfl k (w.heap.size+1) 91 (aW {P0 with f:=f,cg:=g,q:=q}) Tl.o 3 (.bool h) rfl rfl (show 3<7 by decide) bY.2.2 rfl (aW {P0 with f:=f,cg:=g,q:=q,bZ:=h}) rfl ?_;intro w8 i _ _;have WP:=F i;clear i))
 clear Ns WO Tl
 go_upto_region 5 with(refine ox rfl 9 24 23 rfl k (w.heap.size+1) 91 (aW {P0 with f:=f,cg:=g,q:=q,bZ:=h}) WP.o 2 (.string SB) rfl rfl (show 2<7 by decide) bY.1 rfl (aW {P0 with f:=f,cg:=g,q:=q,bZ:=h,rest:=b}) (by rw[HSB.o];rfl) ?_;intro w9 i _ _;have t:=F i;clear i)
 clear WP
 go_upto_region 6 with(go_at_call 72;refine(K3.o _ (Hp.o _ t.o.bL)).k λxr U=>?_;have l:=F<|t.o.below U.o;clear U)
 clear t;cases hc with
 |false =>
  have L:=fo (R=⟨false,[],b,h,q,g,f⟩) YE.o
  go_upto_region 10 with fail
  have C:=F<|N.o.below l.o.bL
  go_wp2_with(first|(refine CF rfl 91 3 rfl k (w.heap.size+1) 91 (aW {P0 with f:=f,cg:=g,q:=q,bZ:=h,rest:=b}) l.o _ rfl underlying91 rfl mO ?_)|(refine Ma rfl 91 2 42 rfl w w.heap.size 91 (aW P0) C.o 0 (aW {P0 with f:=f,cg:=g,q:=q,bZ:=h,rest:=b}).toList rfl rfl (ag _) mO Ju (aW {P0 with f:=f,cg:=g,q:=q,bZ:=h,rest:=b}) rfl ?_;intro B i;have D:=F i;clear i))
  exact Rj rfl D.o (by rw[L.o];rfl)
 |true =>
  cases sn with
  |false =>
   have L:=fo (R=⟨false,[],b,h,q,g,f⟩) YE.o
   go_upto_region 10 with(go_at_call 73;refine(KN.o _).e ?_)
   have C:=F<|N.o.below l.o.bL
   go_wp2_with(first|(refine CF rfl 91 3 rfl k (w.heap.size+1) 91 (aW {P0 with f:=f,cg:=g,q:=q,bZ:=h,rest:=b}) l.o _ rfl underlying91 rfl mO ?_)|(refine Ma rfl 91 2 42 rfl w w.heap.size 91 (aW P0) C.o 0 (aW {P0 with f:=f,cg:=g,q:=q,bZ:=h,rest:=b}).toList rfl rfl (ag _) mO Ju (aW {P0 with f:=f,cg:=g,q:=q,bZ:=h,rest:=b}) rfl ?_;intro B i;have D:=F i;clear i))
   exact Rj rfl D.o (by rw[L.o];rfl)
  |true =>
   have L:=fo (R=⟨true,r,d,h,q,g,f⟩) YE.o
   go_upto_region 10 with(first|(go_at_call 73;refine(KN.o _).e ?_)|(go_at_call 19;refine(KL.o _).k λw13 U=>?_;have H73:=F<|H71.o.below U.o;clear U)|(refine ox rfl 4 36 (.const (.bool true)) rfl k (w.heap.size+1) 91 (aW {P0 with f:=f,cg:=g,q:=q,bZ:=h,rest:=b}) l.o 0 (.bool true) rfl rfl (show 0<7 by decide) bY.2.2 rfl (aW {P0 with f:=f,cg:=g,q:=q,bZ:=h,rest:=b,gR:=true}) rfl ?_;intro B i _ _;have H71:=F i;clear i)|(refine ox rfl 9 39 38 rfl k (w.heap.size+1) 91 (aW {P0 with f:=f,cg:=g,q:=q,bZ:=h,rest:=b,gR:=true}) H73.o 1 (S r) rfl rfl (show 1<7 by decide) bY.1 rfl (aW {P0 with f:=f,cg:=g,q:=q,bZ:=h,rest:=b,gR:=true,aJ:=r}) rfl ?_;intro w14 i _ _;have H74:=F i;clear i)|(refine ox rfl 9 41 40 rfl k (w.heap.size+1) 91 (aW {P0 with f:=f,cg:=g,q:=q,bZ:=h,rest:=b,gR:=true,aJ:=r}) H74.o 2 (S d) rfl rfl (show 2<7 by decide) bY.1 rfl (aW {P0 with f:=f,cg:=g,q:=q,bZ:=h,rest:=d,gR:=true,aJ:=r}) rfl ?_;intro w15 i _ _;have K:=F i;clear i))
   have C:=F<|N.o.below K.o.bL
   go_wp2_with(first|(refine CF rfl 91 3 rfl k (w.heap.size+1) 91 (aW {P0 with f:=f,cg:=g,q:=q,bZ:=h,rest:=d,gR:=true,aJ:=r}) K.o _ rfl underlying91 rfl mO ?_)|(refine Ma rfl 91 2 42 rfl w w.heap.size 91 (aW P0) C.o 0 (aW {P0 with f:=f,cg:=g,q:=q,bZ:=h,rest:=d,gR:=true,aJ:=r}).toList rfl rfl (ag _) mO Ju (aW {P0 with f:=f,cg:=g,q:=q,bZ:=h,rest:=d,gR:=true,aJ:=r}) rfl ?_;intro B i;have D:=F i;clear i))
   exact Rj rfl D.o L.o.symm
