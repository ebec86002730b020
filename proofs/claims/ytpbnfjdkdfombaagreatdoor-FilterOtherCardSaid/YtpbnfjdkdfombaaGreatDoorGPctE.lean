/- Joined texts. -/
import Derived.Test.YtpbnfjdkdfombaaGreatDoorGIdnC
import Derived.Test.YtpbnfjdkdfombaaGreatDoorGPunJ
import Derived.Test.YtpbnfjdkdfombaaGreatDoorGUtfD
import Derived.Laws.MakeOwn
set_option maxHeartbeats 40000000
namespace Go.Proofs.YtpbnfjdkdfombaaGreatDoor
open Tryz
open Go.RowKit
set_option maxRecDepth 10000
def kE:O:=[120,110,45,45]
def xJ(b:O):Option O :=
 if Lib.hasPrefix b kE=true then
  (if q9 b=true then(match Fl (b.drop 4)with|some l=>if qZ l=true then some b else none|none=>none)else none)
 else if q9 b=true then some b
 else if qZ (signs b)=true then(if(encR (signs b)).2=true then some (kE++(encR (signs b)).1)else none)else none
def rQ(w:H)(o:Option O):Ending->H->Prop:=λe w'=>∃ x,e=.returned (.tuple #[S x,.bool o.isSome])/\(∀y,o=some y->x=y)/\r7 w w'
theorem rQ.none{w w':H}{o:Option O}(x:O)(h:o=none)(U:r7 w w'):rQ w o (.returned (.tuple #[S x,.bool false])) w':=by
 subst h;exact⟨_,rfl,λ_ h=>(by cases h),U⟩
theorem rQ.some{w w':H}{o:Option O}{x:O}{s:ByteArray}(h:o=some x)(hs:s=E x)(U:r7 w w'):rQ w o (.returned (.tuple #[.string s,.bool true])) w':=by
 subst h;subst hs;exact⟨_,rfl,λ_ h=>bj h,U⟩
theorem b0t{b:O}(h:Lib.hasPrefix b kE=true)(I:q9 b=false):xJ b=none:=by unfold xJ;rw[if_pos h,if_neg (by simp[I])]
theorem b0u{b:O}(h:Lib.hasPrefix b kE=true)(I:q9 b=true)(h3:Fl (b.drop 4)=none):xJ b=none:=by unfold xJ;rw[if_pos h,if_pos I,h3]
theorem b0v{b:O}{l:List Int}(h:Lib.hasPrefix b kE=true)(I:q9 b=true)(h3:Fl (b.drop 4)=some l):xJ b=if qZ l=true then some b else none:=by unfold xJ;rw[if_pos h,if_pos I,h3]
theorem b0w{b:O}(h:Lib.hasPrefix b kE=false)(I:q9 b=true):xJ b=some b:=by unfold xJ;rw[if_neg (by simp[h]),if_pos I]
theorem b0x{b:O}(h:Lib.hasPrefix b kE=false)(I:q9 b=false)(h3:qZ (signs b)=false):xJ b=none:=by unfold xJ;rw[if_neg (by simp[h]),if_neg (by simp[I]),if_neg (by simp[h3])]
theorem b0y{b:O}(h:Lib.hasPrefix b kE=false)(I:q9 b=false)(h3:qZ (signs b)=true):xJ b=if(encR (signs b)).2=true then some (kE++(encR (signs b)).1)else none:=by unfold xJ;rw[if_neg (by simp[h]),if_neg (by simp[I]),if_pos h3]
theorem Ci(l:List Int):(encR l).1.length<=3000:=by
 unfold encR
 split
 ·simp
 next h =>
 have Y:l.all sg=true:=by
  by_cases I:l.all sg=true
  ·exact I
  exact absurd (.inr I) h
 exact OV (ch.mp Y) M0
theorem St(b:O)(w:H)(U:b.length<=307200000)(hT:uL w):Calls prog 227 #[.string (E b)] w λe w'=>ga w 3 (d8 (signs b)) e w':=by
 have h:=GU (E b) w (by rw[aF];exact U) hT;rw[cW,GQ]at h;exact h
theorem Eg(b:O)(w:H)(U:b.length<=102400000)(hT:uL w):Calls prog 230 #[.string (E b)] w λe w'=>rQ w (xJ b) e w':=by
 have hlow:=λW=>Ll b W (by unfold maxLen;omega);have hcut:=λW=>Any.strings_CutPrefix laysCut (E b) (E kE) W;have hsg:=λW (h:uL W)=>St b W M0 h;have hdec:=λW=>Cc (b.drop 4) W (by rw[aj];omega);have e1:(E b).data.toList=b:=cW b;have e2:(E kE).data.toList=kE:=cW kE;rw[e1,e2]at hcut;have ts:∀ W,bP prog 134 #[.string (E b),.string ⟨#[120,110,45,45]⟩] W (.tuple #[.string (E (Lib.trimPrefix b kE)),.bool (Lib.hasPrefix b kE)]):=hcut;clear hcut e1 e2;have IU:Lib.hasPrefix b kE=true->Lib.trimPrefix b kE=b.drop 4:=λh=>by unfold Lib.trimPrefix;rw[if_pos h];rfl
 obtain⟨O',hO⟩:=V (xJ b);rw[<-hO];obtain⟨R,hR⟩:=V (Lib.trimPrefix b kE);rw[<-hR]at ts IU;clear hR;have HT:=F hT;clear hT;cases hp:Lib.hasPrefix b kE
 ·rw[hp]at ts
  have rM:=F ts;clear ts IU hdec;cases hl:q9 b
  ·rw[hl]at hlow
   have pO:=F hlow;clear hlow;have ma:=F hsg;clear hsg;cases hla:qZ (signs b)
   ·have ho:=hO.trans (b0x hp hl hla)
    have HO:=F ho;clear ho hO hp hl;obtain⟨L,hL⟩:=V (signs b);rw[<-hL]at hla ma;have MV:=F hla;clear hla hL;obtain⟨s,hs⟩:=V (E b);rw[<-hs]at pO rM ma ⊢;clear hs;go_enter func230,ntmps230
    go_wp2_with (first
     |(go_at_call 241;refine(pO.o _).m ?_;rintro e w2 ⟨rfl,rfl⟩)
     |(go_at_call 134;refine(rM.o _).m ?_;rintro e w2 ⟨rfl,hw2⟩;subst w2)
     |(go_at_call 227;refine(ma.o _ HT.o).m ?_;rintro e w3 ⟨v3,rfl,ho3,hb3⟩;have HB3:=F hb3;clear hb3;have S2:=F<|Sl.ew ho3;clear ho3)
     |(go_at_call 243;refine(sy L _ _ (S2.o.more (ag _))).m ?_;rw[MV.o];rintro e w4 ⟨rfl,hb4⟩;have eI:=F<|HB3.o.trans (hb4.m HB3.o.size);clear hb4))
    go_ret2
    exact rQ.none [] HO.o eI.o
   have ho:=hO.trans (b0y hp hl hla);have henc:=Fz (signs b);have hal:=Ci (signs b);obtain⟨L,hL⟩:=V (signs b);rw[<-hL]at hla ma ho henc hal;clear hL hO hp hl;obtain⟨A',hA⟩:=V ((encR L).1);obtain⟨a,ha⟩:=V ((encR L).2);rw[<-hA,<-ha]at ho henc;rw[<-hA]at hal;clear hA ha;have MV:=F hla;clear hla;have zC:=F henc;clear henc;obtain⟨s,hs⟩:=V (E b);rw[<-hs]at pO rM ma ⊢;clear hs;have t4:(⟨#[120,110,45,45]⟩:ByteArray)++E A'=E (kE++A'):=mm kE A';have Hq:=F t4;clear t4;cases a
   all_goals
    have HO:=F ho;clear ho;go_enter func230,ntmps230
    go_wp2_with (first
     |(go_at_call 241;refine(pO.o _).m ?_;rintro e w2 ⟨rfl,rfl⟩)
     |(go_at_call 134;refine(rM.o _).m ?_;rintro e w2 ⟨rfl,hw2⟩;subst w2)
     |(go_at_call 227;refine(ma.o _ HT.o).m ?_;rintro e w3 ⟨v3,rfl,ho3,hb3⟩;have HB3:=F hb3;clear hb3;have S2:=F<|Sl.ew ho3;clear ho3)
     |(go_at_call 243;refine(sy L _ _ (S2.o.more (ag _))).m ?_;rw[MV.o];rintro e w4 ⟨rfl,hb4⟩;have HS4:=F<|(S2.o.below hb4).more hb4.size;have eI:=F<|HB3.o.trans (hb4.m HB3.o.size);clear hb4)
     |(go_at_call 244;refine(zC.o _ _ HS4.o).m ?_;rintro e w5 ⟨rfl,hb5⟩;have gD:=F<|eI.o.trans (hb5.m eI.o.size);clear hb5))
    go_ret2
    first
     |exact rQ.some HO.o Hq.o gD.o
     |(rw[Hq.o];exact rQ.none _ HO.o gD.o)
  rw[hl]at hlow;have ho:=hO.trans (b0w hp hl);have HO:=F ho;clear ho hO hp hl hsg;have pO:=F hlow;clear hlow;obtain⟨s,hs⟩:=V (E b);rw[<-hs]at pO rM ⊢;have HS:=F hs;clear hs;go_enter func230,ntmps230
  go_wp2_with (first
   |(go_at_call 241;refine(pO.o _).m ?_;rintro e w2 ⟨rfl,rfl⟩)
   |(go_at_call 134;refine(rM.o _).m ?_;rintro e w2 ⟨rfl,hw2⟩;subst w2))
  go_ret2
  exact rQ.some HO.o HS.o (Below.refl _ _)
 rw[hp]at ts;have htr:=IU hp;subst htr;have rM:=F ts;clear ts IU hsg;cases hl:q9 b
 ·rw[hl]at hlow
  have ho:=hO.trans (b0t hp hl);have HO:=F ho;clear ho hO hp hl hdec;have pO:=F hlow;clear hlow;obtain⟨s,hs⟩:=V (E b);rw[<-hs]at pO rM ⊢;clear hs;go_enter func230,ntmps230
  go_wp2_with (first
   |(go_at_call 241;refine(pO.o _).m ?_;rintro e w2 ⟨rfl,rfl⟩)
   |(go_at_call 134;refine(rM.o _).m ?_;rintro e w2 ⟨rfl,hw2⟩;subst w2))
  go_ret2
  exact rQ.none [] HO.o (Below.refl _ _)
 rw[hl]at hlow;have pO:=F hlow;clear hlow;cases hd:Fl (b.drop 4)with
 |none =>
  have ho:=hO.trans (b0u hp hl hd);rw[hd]at hdec;have HO:=F ho;clear ho hO hp hl hd;have Tv:=F hdec;clear hdec;generalize b.drop 4=r at *;obtain⟨s,hs⟩:=V (E b);rw[<-hs]at pO rM ⊢;have HS:=F hs;clear hs;go_enter func230,ntmps230
  go_wp2_with (first
   |(go_at_call 241;refine(pO.o _).m ?_;rintro e w2 ⟨rfl,rfl⟩)
   |(go_at_call 134;refine(rM.o _).m ?_;rintro e w2 ⟨rfl,hw2⟩;subst w2)
   |(go_at_call 242;refine(Tv.o _).m ?_;rintro e w3 ⟨v3,rfl,ho3,hz3,hb3⟩;have HB3:=F hb3;clear hb3 hz3 ho3))
  go_ret2
  rw[HS.o];exact rQ.none b HO.o HB3.o
 |some l =>
  have ho:=hO.trans (b0v hp hl hd);rw[hd]at hdec;clear hO hp hl hd;have Tv:=F hdec;clear hdec;generalize b.drop 4=r at *;obtain⟨s,hs⟩:=V (E b);rw[<-hs]at pO rM ⊢;have HS:=F hs;clear hs;have hla:=sy l;obtain⟨m,hm⟩:=V (qZ l);rw[<-hm]at hla ho;clear hm;have MV:=F hla;clear hla;cases m
  all_goals
   have HO:=F ho;clear ho;go_enter func230,ntmps230
   go_wp2_with (first
    |(go_at_call 241;refine(pO.o _).m ?_;rintro e w2 ⟨rfl,rfl⟩)
    |(go_at_call 134;refine(rM.o _).m ?_;rintro e w2 ⟨rfl,hw2⟩;subst w2)
    |(go_at_call 242;refine(Tv.o _).m ?_;rintro e w3 ⟨v3,rfl,ho3,hz3,hb3⟩;have HB3:=F hb3;clear hb3 hz3;simp only[dj]at ho3;have S2:=F<|Sl.ew ho3;clear ho3)
    |(go_at_call 243;refine(MV.o _ _ S2.o).m ?_;rintro e w4 ⟨rfl,hb4⟩;have eI:=F<|HB3.o.trans (hb4.m HB3.o.size);clear hb4))
   go_ret2
   first
    |exact rQ.some HO.o HS.o eI.o
    |(rw[HS.o];exact rQ.none b HO.o eI.o)
end Go.Proofs.YtpbnfjdkdfombaaGreatDoor
set_option maxHeartbeats 40000000
namespace Go.Proofs.YtpbnfjdkdfombaaGreatDoor
open Tryz
open Go.RowKit
set_option maxRecDepth 10000
def pdV(x y:UInt8):Int:=fg (G x) 16*16+fg (G y) 16
def nJ:O->O
 |c::x::y::t=>if G c=37/\0<=fg (G x) 16/\0<=fg (G y) 16 then UInt8.ofNat (pdV x y).toNat::nJ t else c::nJ (x::y::t)
 |l=>l
theorem zX(c:Int):fg c 16<16:=by unfold fg;simp only;split <;>omega
theorem OH(c:Int):-1<=fg c 16:=by unfold fg;simp only;split <;>(try split) <;>(try split) <;>(try split) <;>omega
theorem a0D{l:O}{k:Nat}(h:k+2<l.length)(hc:G l[k]=37)(X:0<=fg (G l[k+1]) 16)(hy:0<=fg (G l[k+2]) 16):nJ (l.drop k)=UInt8.ofNat (pdV l[k+1] l[k+2]).toNat::nJ (l.drop (k+3)):=by
 rw[aC (show k<l.length by omega),aC (show k+1<l.length by omega),aC (show k+1+1<l.length by omega)];rw[nJ,if_pos ⟨hc,X,hy⟩]
theorem VS{l:O}{k:Nat}(h:k<l.length)(hm:¬ (G l[k]=37/\∃ I:k+2<l.length,0<=fg (G l[k+1]) 16/\0<=fg (G l[k+2]) 16)):nJ (l.drop k)=l[k]::nJ (l.drop (k+1)):=by
 rw[aC h];rcases cI (k+2) l.length with I|I
 ·rw[aC (show k+1<l.length by omega),aC (show k+1+1<l.length by omega)]
  rw[nJ,if_neg (λa=>hm ⟨a.1,I,a.2⟩)]
 have e:(l.drop (k+1)).length<=1:=by rw[aj];omega
 generalize l.drop (k+1)=t at e
 match t,e with
 | [],_=>simp[nJ]
 | [x],_=>simp[nJ]
theorem Dl(l:O)(w:H)(hl:l.length<=1024000000):Calls prog 222 #[.string (E l)] w (ga w 5 (Lib.byteCells (nJ l))):=by
 obtain⟨i8,tA,Bl,lK,nC⟩:=info_parts jn;obtain⟨s,hs⟩:=V (E l);have hsz:s.size=l.length:=by rw[hs,aF]
 have hby:∀ k (hk:k<s.size) (hk2:k<l.length),((s[k]'hk).toNat:Int)=G l[k]:=λk hk hk2=>cy hs hk hk2;rw[<-hs];clear hs;obtain⟨N,hN⟩:=V (s.size);have iP:s.size=N:=hN.symm;have oP:N<=1024000000:=M0;have iV:=F hby;clear hby;have eM:=F hsz;clear hsz hl hN;go_enter func222,ntmps222;go_wp2_with fail;obtain⟨w1,hr,hown0,hgr⟩:=run_make_own (P:=prog) w w.heap.size 25 5 i8 (.int .u8 0) 1 underlying25 tA Bl lK .i64 .i64 N (by rw[nC];omega) (am oP P8) (ag _);have hb1:r7 w w1:=⟨hgr.os,hgr.tape,hgr.output,hgr.size,λk hk=>hgr.block k hk Oc⟩;have HO0:=F hown0;clear hown0;have HB1:=F hb1;clear hb1 hgr;obtain⟨T,hT⟩:=V (nJ l);rw[<-hT];have HT:=F hT;clear hT;rw[hr];clear hr;go_wp2_with fail
 go_loopw [3,4] (λov iv wr=>∃ (k:Nat) (o:O),k<=N/\iv=.int .i64 k/\wr.ownsRow w.heap.size 5 1 ov o.length (Lib.byteCells o)/\o++nJ (l.drop k)=T/\o.length<=k/\w.heap.size<=wr.heap.size/\r7 w wr) (λ_ i _=>N-(intOf i).toNat)
 case atStart=>exact⟨0,[],M0,Oc,HO0.o,by rw[HT.o];rfl,Oc,HB1.o.size,HB1.o⟩
 case round =>
  obtain⟨k,o,hk,rfl,hown,ho,hol,hwz,hbel⟩:=hrel;have HO:=F hown;clear hown;have HB:=F hbel;clear hbel;have HC:=F ho;clear ho;by_cases hlt:k<N
  ·have mf:k<s.size:=by omega
   have hkl:k<l.length:=by have:=eM.o;omega
   have X:=iV.o k mf hkl;obtain⟨al,vC⟩:∃ al,al=o.length:=⟨_,rfl⟩;have ho:=HO.o;rw[<-vC]at hol ho;have xu:=F ho;clear ho HO;have mW:=F vC;clear vC;have hmiss:=VS (l:=l) (k:=k) hkl;have hhit:=a0D (l:=l) (k:=k);obtain⟨X',hX⟩:∃ X':Int,X'=G l[k]:=⟨_,rfl⟩;rw[<-hX]at X
   have pU:¬ (G l[k]=37/\∃ I:k+2<l.length,0<=fg (G l[k+1]) 16/\0<=fg (G l[k+2]) 16)->∀ (v2:Z) (w2:H),w2.ownsRow w.heap.size 5 1 v2 (al+1) (Lib.byteCells o++[.int .u8 X'])->∃ o',w2.ownsRow w.heap.size 5 1 v2 o'.length (Lib.byteCells o')/\o'++nJ (l.drop (k+1))=T/\o'.length=al+1:=λhm v2 w2 I=>by
    refine⟨o++[l[k]],?_,?_,?_⟩
    ·rw[ae,<-mW.o,dR,<-hX]
     exact I
    ·rw[<-HC.o,hmiss hm];simp
    rw[ae,<-mW.o];rfl
   clear hmiss;have hw2:IntKind.i64.wrap ((k:Int)+2)=(k:Int)+2:=IntWalk.i64_in _ M0;have hw1:IntKind.i64.wrap ((k:Int)+1)=(k:Int)+1:=IntWalk.i64_in _ M0;by_cases h37:X'=37
   ·by_cases hin:k+2<N
    ·have hk1:k+1<s.size:=by omega
     have hk2:k+2<s.size:=M0;have ZP:k+1<l.length:=by have:=eM.o;omega
     have U9:k+2<l.length:=by have:=eM.o;omega
     have hx1:=iV.o (k+1) hk1 ZP;have hx2:=iV.o (k+2) hk2 U9;have r1:=jL l[k+1];have r2:=jL l[k+2];have hd1:∀ W,bP prog 90 #[.int .u8 (G l[k+1]),.int .i64 16] W (.int .i64 (fg (G l[k+1]) 16)):=λW=>(dm (G l[k+1]) 16 W r1 M0).m (λ_ _ h=>⟨h.1,h.2.symm⟩);have hd2:∀ W,bP prog 90 #[.int .u8 (G l[k+2]),.int .i64 16] W (.int .i64 (fg (G l[k+2]) 16)):=λW=>(dm (G l[k+2]) 16 W r2 M0).m (λ_ _ h=>⟨h.1,h.2.symm⟩);have g1:=zX (G l[k+1]);have g2:=zX (G l[k+2]);have f1:=OH (G l[k+1]);have f2:=OH (G l[k+2]);obtain⟨D,hD⟩:=V (fg (G l[k+1]) 16);obtain⟨E',hE⟩:=V (fg (G l[k+2]) 16);rw[<-hD]at hd1 g1 f1;rw[<-hE]at hd2 g2 f2;have HD:=F hD;clear hD;have HE:=F hE;clear hE;by_cases hdg:0<=D/\0<=E'
     ·obtain⟨d0,e0⟩:=hdg
      have hv:pdV l[k+1] l[k+2]=D*16+E':=by unfold pdV;rw[<-HD.o,<-HE.o]
      have hh:=hhit U9 (by rw[<-hX];exact h37) (by rw[<-HD.o];exact d0) (by rw[<-HE.o];exact e0);rw[hv]at hh;have hm1:IntKind.i64.wrap (D*16)=D*16:=IntWalk.i64_in _ M0;have hm2:IntKind.i64.wrap (D*16+E')=D*16+E':=IntWalk.i64_in _ M0;have Vb:IntKind.u8.wrap (D*16+E')=D*16+E':=by rw[IntKind.wrap_u8];omega
      have hge:∀ (v2:Z) (w2:H),w2.ownsRow w.heap.size 5 1 v2 (al+1) (Lib.byteCells o++[.int .u8 (D*16+E')])->∃ o',w2.ownsRow w.heap.size 5 1 v2 o'.length (Lib.byteCells o')/\o'++nJ (l.drop (k+3))=T/\o'.length=al+1:=λv2 w2 I=>by
       refine⟨o++[UInt8.ofNat (D*16+E').toNat],?_,?_,?_⟩
       ·rw[ae,<-mW.o,dR,Xn M0]
        exact I
       ·rw[<-HC.o,hh];simp
       rw[ae,<-mW.o];rfl
      have HM:=F hge;clear hge pU hhit hh hv;clear hX f1 f2;subst h37;have HD1:=F hd1;clear hd1;have HD2:=F hd2;clear hd2;obtain⟨x1,Qc⟩:∃ x,x=G l[k+1]:=⟨_,rfl⟩;obtain⟨x2,Qe⟩:∃ x,x=G l[k+2]:=⟨_,rfl⟩;rw[<-Qc]at hx1 HD1 r1;rw[<-Qe]at hx2 HD2 r2;clear Qc Qe HD HE;obtain⟨K1,hK1⟩:=V (k+1);obtain⟨K2,hK2⟩:=V (k+2);have Qd:∀ h:K1<s.size,((s[K1]'h).toNat:Int)=x1:=λh=>by subst hK1;exact hx1
      have Qf:∀ h:K2<s.size,((s[K2]'h).toNat:Int)=x2:=λh=>by subst hK2;exact hx2
      have ZO:K1<s.size:=M0;have ZQ:K2<s.size:=M0;have ZR:K2<N:=M0;have a99:=Qd ZO;have b0a:=Qf ZQ;have a95:IntKind.i64.wrap ((k:Int)+1)=(K1:Int):=by rw[hw1];omega
      have a96:IntKind.i64.wrap ((k:Int)+2)=(K2:Int):=by rw[hw2];omega
      have SZ:=F hK2;have Tz:=F hK1;clear hx1 hx2 Qd Qf hk1 hk2 hw1 hw2 hin hK1 hK2 ZP U9;go_wp2_with fail
      go_quiet ((go_at_call 90;first|with_reducible exact Calls.quiet_of_same (HD1.o _)|with_reducible exact Calls.quiet_of_same (HD2.o _)))
      have pp:w.heap.size<=(wr.drewN nq).heap.size:=hwz;have ho2:=own_below xu.o (ft (Below.refl wr.heap.size wr) nq);have jx:=F ho2;clear ho2;have HB3:=F<|ft HB.o nq
      go_wp2_with (at_builtin;(refine et rfl (.tmp 43) (.tmp 49) _ rfl w.heap.size 5 i8 (.int .u8 0) 1 underlying25 tA Bl lK nC P8 _ _ _ (Lib.byteCells o) rfl jx.o (.int .u8 (D*16+E')) rfl rfl M0 P8 M0 ?_);intro v2 w2 hown2 hw2 hb2;have eJ:=F hown2;clear hown2;have HB2:=F hb2;clear hb2)
      go_roundw
      case rel =>
       obtain⟨o',a1,a2,a3⟩:=HM.o _ _ eJ.o;have U7:=SZ.o;subst U7;exact⟨k+3,o',M0,by first|rfl|(simp;done)|(simp;omega),a1,a2,M0,M0,HB3.o.trans HB2.o⟩
      case measure=>have:=SZ.o;simp[intOf];omega
     have HM:=F<|pU (λa=>hdg ⟨by rw[HD.o];exact a.2.2.1,by rw[HE.o];exact a.2.2.2⟩);clear pU hhit;clear hX;subst h37;have HD1:=F hd1;clear hd1;have HD2:=F hd2;clear hd2;obtain⟨x1,Qc⟩:∃ x,x=G l[k+1]:=⟨_,rfl⟩;obtain⟨x2,Qe⟩:∃ x,x=G l[k+2]:=⟨_,rfl⟩;rw[<-Qc]at hx1 HD1 r1;rw[<-Qe]at hx2 HD2 r2;clear Qc Qe HD HE;obtain⟨K1,hK1⟩:=V (k+1);obtain⟨K2,hK2⟩:=V (k+2);have Qd:∀ h:K1<s.size,((s[K1]'h).toNat:Int)=x1:=λh=>by subst hK1;exact hx1
     have Qf:∀ h:K2<s.size,((s[K2]'h).toNat:Int)=x2:=λh=>by subst hK2;exact hx2
     have ZO:K1<s.size:=M0;have ZQ:K2<s.size:=M0;have ZR:K2<N:=M0;have a99:=Qd ZO;have b0a:=Qf ZQ;have a95:IntKind.i64.wrap ((k:Int)+1)=(K1:Int):=by rw[hw1];omega
     have a96:IntKind.i64.wrap ((k:Int)+2)=(K2:Int):=by rw[hw2];omega
     have SZ:=F hK2;have Tz:=F hK1;clear hx1 hx2 Qd Qf hk1 hk2 hw1 hw2 hin hK1 hK2 ZP U9;have hDE:D<0\/(0<=D/\E'<0):=M0;clear hdg;rcases hDE with hDE|⟨hDE,b4g⟩
     iterate 2
      ·go_wp2_with fail
       go_quiet ((go_at_call 90;first|with_reducible exact Calls.quiet_of_same (HD1.o _)|with_reducible exact Calls.quiet_of_same (HD2.o _)))
       have pp:w.heap.size<=(wr.drewN nq).heap.size:=hwz;have ho2:=own_below xu.o (ft (Below.refl wr.heap.size wr) nq);have jx:=F ho2;clear ho2;have HB3:=F<|ft HB.o nq
       go_wp2_with (at_builtin;(refine et rfl (.tmp 53) (.tmp 57) _ rfl w.heap.size 5 i8 (.int .u8 0) 1 underlying25 tA Bl lK nC P8 _ _ _ (Lib.byteCells o) rfl jx.o (.int .u8 37) rfl rfl M0 P8 M0 ?_);intro v2 w2 hown2 hw2 hb2;have eJ:=F hown2;clear hown2;have HB2:=F hb2;clear hb2)
       go_roundw
       case rel =>
        obtain⟨o',a1,a2,a3⟩:=HM.o _ _ eJ.o;have CL:=Tz.o;subst CL;exact⟨k+1,o',M0,by first|rfl|(simp;done)|(simp;omega),a1,a2,M0,M0,HB3.o.trans HB2.o⟩
       case measure=>have:=Tz.o;simp[intOf];omega
    have HM:=F<|pU (λa=>hin (by have:=a.2.1;have:=eM.o;omega));clear pU hhit;subst h37;have HX:=F hX;clear hX
    go_wp2_with (at_builtin;(refine et rfl (.tmp 53) (.tmp 57) _ rfl w.heap.size 5 i8 (.int .u8 0) 1 underlying25 tA Bl lK nC P8 _ _ _ (Lib.byteCells o) rfl xu.o (.int .u8 37) rfl rfl M0 P8 M0 ?_);intro v2 w2 hown2 hw2 hb2;have eJ:=F hown2;clear hown2;have HB2:=F hb2;clear hb2)
    go_roundw
    case rel =>
     obtain⟨o',a1,a2,a3⟩:=HM.o _ _ eJ.o;exact⟨k+1,o',M0,Oc,a1,a2,M0,M0,HB.o.trans HB2.o⟩
    case measure=>simp[intOf];omega
   have HM:=F<|pU (λa=>h37 (by rw[hX];exact a.1));clear pU hhit;have HX:=F hX;clear hX
   go_wp2_with (at_builtin;(refine et rfl (.tmp 53) (.tmp 57) _ rfl w.heap.size 5 i8 (.int .u8 0) 1 underlying25 tA Bl lK nC P8 _ _ _ (Lib.byteCells o) rfl xu.o (.int .u8 X') rfl rfl M0 P8 M0 ?_);intro v2 w2 hown2 hw2 hb2;have eJ:=F hown2;clear hown2;have HB2:=F hb2;clear hb2)
   go_roundw
   case rel =>
    obtain⟨o',a1,a2,a3⟩:=HM.o _ _ eJ.o;exact⟨k+1,o',M0,Oc,a1,a2,M0,M0,HB.o.trans HB2.o⟩
   case measure=>simp[intOf];omega
  obtain rfl:k=N:=M0;have he:l.drop k=[]:=bE (by have:=eM.o;omega);have hc:=HC.o;rw[he,show nJ []=[]from by simp[nJ],aV]at hc;have jx:=F (show wr.ownsRow w.heap.size 5 1 _ (Lib.byteCells T).length (Lib.byteCells T) by rw[Lib.byteCells_length,<-hc];exact HO.o);go_wp2_with fail;go_ret;have h3:=jx.o;rw[HT.o]at h3;exact⟨_,rfl,h3,HB.o⟩
