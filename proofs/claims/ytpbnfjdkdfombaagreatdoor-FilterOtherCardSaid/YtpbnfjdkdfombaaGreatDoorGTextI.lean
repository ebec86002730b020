/- Joined texts. -/
import Derived.Test.YtpbnfjdkdfombaaGreatDoorGPctA
import Derived.Deep.RegionHeld3
import Derived.Lib.ItoaNum
import Derived.Lib.OthersKept
set_option maxHeartbeats 40000000
namespace Go.Proofs.YtpbnfjdkdfombaaGreatDoor
open Tryz
open Go.RowKit
set_option maxRecDepth 10000
structure Hb (wb:H) (l:O) (w:H):Prop where
 bld:∃ g,sR wb.heap.size g l w/\∀ k,g=some k->wb.heap.size<=k
 bL:r7 wb w
theorem Hb.fresh(wb:H):Hb wb [] (wb.alloc (.cells #[.pointer none,.slice none 0 0] 106)) :=
 ⟨⟨none,sR.fresh wb,λ_ h=>by cases h⟩,(Below.refl _ _).alloc (ag _) _⟩
theorem Hb.step{wb w w':H}{l:O}(h:Hb wb l w)(U:r7 w w'):Hb wb l w':=by
 obtain⟨g,Y,I⟩:=h.bld;exact⟨⟨g,Y.below U,I⟩,h.bL.trans (U.m h.bL.size)⟩
theorem Hb.Ax{wb w w':H}{l':O}{g:Option Nat}(hg:∀ k,g=some k->wb.heap.size<=k)(U:r7 wb w)(h:EM w wb.heap.size g l' w'):Hb wb l' w':=by
 obtain⟨g',a1,a2,a3⟩:=h;refine⟨⟨g',a1,λk hk=>?_⟩,U.trans (a3.below U.size ?_)⟩
 ·rcases a2 with h|⟨k',h,h'⟩
  ·exact hg k (h▸hk)
  rw[h]at hk;injection hk with hk;have:=U.size;omega
 rintro k (h|h)
 ·omega
 exact hg k h
theorem Hb.ws{wb w:H}{l:O}(m:O)(h:Hb wb l w)(hlen:l.length+m.length<=1099511627776) :
  Calls prog 68 #[.pointer (some ⟨wb.heap.size,0,none⟩),S m] w λe w'=>e=.returned (.tuple #[.int .i64 m.length,.nilIface])/\Hb wb (l++m) w':=by
 obtain⟨g,Y,I⟩:=h.bld;refine(gP m Y hlen).m ?_;rintro e w' ⟨rfl,hr⟩;exact⟨rfl,Hb.Ax I h.bL hr⟩
theorem Hb.Ti{wb w:H}{l:O}(m:UInt8)(n:Int)(hn:n=G m)(h:Hb wb l w)(hlen:l.length+1<=1099511627776) :
  Calls prog 69 #[.pointer (some ⟨wb.heap.size,0,none⟩),.int .u8 n] w λe w'=>e=.returned .nilIface/\Hb wb (l++[m]) w':=by
 subst hn;obtain⟨g,Y,I⟩:=h.bld;refine(pM m Y hlen).m ?_;rintro e w' ⟨rfl,hr⟩;exact⟨rfl,Hb.Ax I h.bL hr⟩
theorem Hb.str{wb w:H}{l:O}(h:Hb wb l w) :
  Calls prog 73 #[.pointer (some ⟨wb.heap.size,0,none⟩)] w λe w'=>e=.returned (S l)/\r7 wb w':=by
 obtain⟨g,Y,I⟩:=h.bld;refine(kX wb.heap.size Y (ag _) I).m ?_;rintro e w' ⟨rfl,hr⟩;exact⟨rfl,h.bL.trans hr⟩
theorem boxed{P:Program}{ops:Array Oper}{rest:List Oper}{o:Oper}{a:Act}{w:H}{Q:Exit->Act->H->Prop}(hg:o.guard=none)(t:TypeId)(x:Operand)(ho:o.op=.box t x)
  (cs:Array Z) (X:a.eval x=.agg cs)
  (h:∀ bx w',w.heap.size<=bx->bx<w'.heap.size->w'.heap[bx]? = some (.cells cs t (0,0))->(∀i,w'.cell? ⟨bx,i,none⟩=cs[i]?)->r7 w w'->wpList P ops Q rest (a.put o.dst (.pointer (some ⟨bx,0,none⟩))) w'):wpList P ops Q (o::rest) a w:=by
 refine Go.Great.wpList_boxTo hg t x ho _ rfl _ rfl cs (by rw[X];rfl) ?_;refine h w.heap.size _ (ag _) Oc (heap_alloc_new w _) (λi=>?_) ((Below.refl _ _).alloc (ag _) _);rw[World.cell?_alloc_mark]
theorem gO{B:Nat}{w:H}{av:Option Addr}{n c:Nat}{l:List O}(h:Sl B w (.slice av n c) (l.map S))(k:Nat)(hk:k<l.length) :
  ∃b o,av=some ⟨b,o,none⟩/\b<B/\w.cell? ⟨b,o+k,none⟩=some (S l[k]):=by
 obtain⟨c',_,_,h⟩:=h;rcases h with⟨hn,_⟩|⟨b,o,U,hv,ha⟩
 ·have:l=[]:=by simpa using hn
  subst this;simp at hk
 injection hv with Y I h3
 refine⟨b,o,Y,U,?_⟩;have:=ha k (by simpa using hk)
 simpa using this
def uf(u:Url):O:=if u.usr=[]/\u.er=[]then []else if u.er=[]then u.usr++[64]else u.usr++[58]++u.er++[64]
def cH:List O->O
 | []=>[]
 |p::r=>[47]++p++cH r
theorem su:∀ (l m:List O),cH (l++m)=cH l++cH m
 | [],m=>rfl
 |p::l,m=>by simp[cH,su l m]
theorem jc(l:List O)(p:O):cH (l++[p])=cH l++[47]++p:=by simp[su,cH]
def nh(u:Url):O:=if u.opq then u.flat else cH u.path
structure EN (u:Url):Prop where
 path:u.path.length<=50
 tot:(u.path.map List.length).sum<=2000
 aJ:u.aJ.length<=100
 usr:u.usr.length<=500
 er:u.er.length<=500
 flat:u.flat.length<=1000
 q:u.q.length<=1000
 f:u.f.length<=1000
 name:u.host.name.length<=500
theorem sw:∀ l:List O,(cH l).length=l.length+(l.map List.length).sum
 | []=>rfl
 |p::r=>by simp[cH,sw r];omega
theorem Gs(a b:ByteArray):ls (a++b)=ls a++ls b:=by
 have h:=mm (ls a) (ls b);rw[kt,kt]at h;rw[h,cW]
theorem Jl(a:Array UInt8):ls ⟨a⟩=a.toList:=rfl

def iW(c:Int):Bool:=decide (c=9\/c=10\/c=12\/c=13\/c=32)
theorem fh(c:Int)(w:H):bP prog 74 #[.int .u8 c] w (.bool (iW c)):=by
 go_enter func74,ntmps74;go_wp2_with fail
 all_goals
  go_ret;refine⟨eA ?_,rfl⟩;unfold iW;simp_all
def z6(c:Int):O:=if c=38 then [38,97,109,112,59]else if c=34 then [38,35,51,52,59]else if c=39 then [38,35,51,57,59]else if c=60 then [38,35,54,48,59]else if c=62 then [38,35,54,50,59]else if c=96 then [38,35,57,54,59]else []
theorem Cp(c:Int):(z6 c).length<=5:=by
 unfold z6;repeat' split
 all_goals simp
theorem Cq(c:Int)(w:H):bP prog 43 #[.int .u8 c] w (S (z6 c)):=by
 go_enter func43,ntmps43;go_wp2_with fail
 all_goals
  go_ret;refine⟨AK ?_,rfl⟩;unfold z6;simp_all[Jl]
def Dh(x:UInt8):O:=if z6 (G x)=[]then [x]else z6 (G x)
theorem Rb(x:UInt8):(Dh x).length<=5:=by
 unfold Dh;have:=Cp (G x)
 split
 ·simp
 exact this
def qM(l:O):O:=l.flatMap Dh
theorem KQ(l:O)(k:Nat)(hk:k<l.length):qM (l.take (k+1))=qM (l.take k)++Dh l[k]:=by
 unfold qM;rw[aH hk,dL,cM,uj,aV]
theorem Co:∀ l:O,(qM l).length<=5*l.length
 | []=>by simp[qM]
 |x::l=>by
  have:=Co l;have Y:=Rb x;simp only[qM,cM,ae,ah]at this ⊢;omega
theorem FB(l:O)(w:H)(hl:l.length<=200000000000):bF prog 44 #[.string (E l)] w (S (qM l)):=by
 obtain⟨s,hs⟩:=V (E l);have hsz:s.size=l.length:=by rw[hs,aF]
 have hby:∀ k (hk:k<s.size) (hk2:k<l.length),((s[k]'hk).toNat:Int)=G l[k]:=λk hk hk2=>cy hs hk hk2;rw[<-hs];clear hs;obtain⟨N,hN⟩:=V (s.size);have iP:s.size=N:=hN.symm;have oP:N<=200000000000:=M0;have iV:=F hby;clear hby;have eM:=F hsz;clear hsz hl hN;go_enter func44,ntmps44;go_wp2_with fail
 go_loopw [8] (λiv wr=>∃ k:Nat,k<=N/\iv=.int .i64 k/\Hid (Hb w (qM (l.take k)) wr)) (λi _=>N-(intOf i).toNat)
 case atStart=>exact⟨0,M0,Oc,Hb.fresh w⟩
 case round =>
  obtain⟨k,hk,rfl,hbd⟩:=hrel;by_cases hlt:k<N
  ·have mf:k<s.size:=by omega
   have hkl:k<l.length:=by have:=eM.o;omega
   have X:=iV.o k mf hkl;have htk:=KQ l k hkl;have hle:=Co (l.take k);rw[aD]at hle;have hl1:(qM (l.take k)).length<=1000000000000:=M0;have KD:=jL l[k];generalize l[k]=x at X htk KD;have hel:=Cp (G x);have hone:Dh x=if z6 (G x)=[]then [x]else z6 (G x):=rfl;have FS:=λW=>Cq (G x) W;rw[hone]at htk;clear hone hle KD;obtain⟨E',hE⟩:=V (z6 (G x));rw[<-hE]at htk FS hel;clear hE;obtain⟨X',hX⟩:∃ X':Int,X'=G x:=⟨_,rfl⟩;rw[<-hX]at X FS;have HX:=F hX;clear hX;have JZ:=F FS;clear FS;have J5:=F hl1;clear hl1;have HEL:=F hel;clear hel;by_cases he:E'=[]
   ·subst he
    rw[if_pos rfl]at htk;have HT:=F htk;clear htk;have e1:(E []).toList.isEmpty=true:=by rw[aB];rfl
    have e2:(E []).toList=[]:=by rw[aB]
    go_wp2_with (first
     |(go_at_call 43;refine(JZ.o _).m ?_;rintro e w2 ⟨rfl,hw2⟩;subst w2)
     |(go_at_call 69;refine(Hb.Ti x _ HX.o hbd.o (by have:=J5.o;omega)).m ?_;rintro e w2 ⟨rfl,n8⟩;have tQ:=F n8;clear n8))
    go_roundw
    case rel=>exact⟨k+1,M0,Oc,by rw[HT.o];exact tQ⟩
    case measure=>simp[intOf];omega
   rw[if_neg he]at htk;have HT:=F htk;clear htk;have e1:(E E').toList.isEmpty=false:=by rw[aB];simpa using he
   have e2:¬ (E E').toList=[]:=by rw[aB];exact he
   clear he
   go_wp2_with (first
    |(go_at_call 43;refine(JZ.o _).m ?_;rintro e w2 ⟨rfl,hw2⟩;subst w2)
    |(go_at_call 68;refine(Hb.ws E' hbd.o (by have:=J5.o;have:=HEL.o;omega)).m ?_;rintro e w2 ⟨rfl,n8⟩;have tQ:=F n8;clear n8))
   go_roundw
   case rel=>exact⟨k+1,M0,Oc,by rw[HT.o];exact tQ⟩
   case measure=>simp[intOf];omega
  obtain rfl:k=N:=M0
  go_wp2_with (first|(go_at_call 73;refine(Hb.str hbd.o).m ?_;rintro e w2 ⟨rfl,hb2⟩;have HB2:=F hb2;clear hb2))
  go_ret;refine⟨?_,HB2.o⟩;have hz:=eM.o;rw[iP]at hz;rw[hz,di];rfl

def pm(n:Nat):UInt8:=UInt8.ofNat (if n<10 then 48+n else 55+n)
theorem ON:∀ k:Fin 16,((⟨#[48,49,50,51,52,53,54,55,56,57,65,66,67,68,69,70]⟩:ByteArray)[k.val]'(by have:=k.isLt;show k.val<16;omega))=pm k.val:=by decide +kernel
def xq(set:Int)(x:UInt8):O:=if k6 set (G x)=true then [37,pm (x.toNat/16),pm (x.toNat%16)]else [x]
def dD(set:Int)(l:O):O:=l.flatMap (xq set)
theorem VQ(set:Int)(x:UInt8):(xq set x).length<=3:=by unfold xq;split <;>simp
theorem Rn(set:Int)(l:O)(k:Nat)(hk:k<l.length):dD set (l.take (k+1))=dD set (l.take k)++xq set l[k]:=by
 unfold dD;rw[aH hk,dL,cM,uj,aV]
theorem gv(set:Int):∀ l:O,(dD set l).length<=3*l.length
 | []=>by simp[dD]
 |x::l=>by
  have:=gv set l;have Y:=VQ set x;simp only[dD,cM,ae,ah]at this ⊢;omega
theorem eT(set:Int)(l:O)(w:H)(hl:l.length<=1024000000):bF prog 156 #[.string (E l),.int .i64 set] w (S (dD set l)):=by
 obtain⟨s,hs⟩:=V (E l);have hsz:s.size=l.length:=by rw[hs,aF]
 have hby:∀ k (hk:k<s.size) (hk2:k<l.length),((s[k]'hk).toNat:Int)=G l[k]:=λk hk hk2=>cy hs hk hk2;rw[<-hs];clear hs;obtain⟨N,hN⟩:=V (s.size);have iP:s.size=N:=hN.symm;have oP:N<=1024000000:=M0;have iV:=F hby;clear hby;have eM:=F hsz;clear hsz hl hN;go_enter func156,ntmps156;go_wp2_with fail
 go_loopw [10] (λiv wr=>∃ k:Nat,k<=N/\iv=.int .i64 k/\Hid (Hb w (dD set (l.take k)) wr)) (λi _=>N-(intOf i).toNat)
 case atStart=>exact⟨0,M0,Oc,Hb.fresh w⟩
 case round =>
  obtain⟨k,hk,rfl,hbd⟩:=hrel;by_cases hlt:k<N
  ·have mf:k<s.size:=by omega
   have hkl:k<l.length:=by have:=eM.o;omega
   have X:=iV.o k mf hkl;have htk:=Rn set l k hkl;have hle:=gv set (l.take k);rw[aD]at hle;have hl1:(dD set (l.take k)).length<=3072000000:=M0;have KD:=jL l[k];generalize l[k]=x at X htk KD;unfold xq at htk;have hin:=λW=>VT set (G x) KD.1 KD.2 W;clear hle;obtain⟨q,hq⟩:=V (x.toNat/16);obtain⟨r,hr⟩:=V (x.toNat%16);have a9T:q<16:=by have:=x.toNat_lt;omega
   have ZW:r<16:=M0;rw[<-hq,<-hr]at htk;obtain⟨F',hF⟩:=V (k6 set (G x));rw[<-hF]at htk hin;clear hF;obtain⟨X',hX⟩:∃ X':Int,X'=G x:=⟨_,rfl⟩;rw[<-hX]at X hin KD;have hXn:X'=(x.toNat:Int):=hX;have ht:Int.tdiv X' 16=(q:Int):=by rw[hXn,hq];exact(Int.ofNat_tdiv x.toNat 16).symm
   have hm:Int.tmod X' 16=(r:Int):=by rw[hXn,hr];exact(Int.ofNat_tmod x.toNat 16).symm
   have HX:=F hX;clear hX hXn hq hr;have WZ:=F hin;clear hin;have J5:=F hl1;clear hl1;cases F'
   ·rw[if_neg Oc]at htk
    have HT:=F htk;clear htk ht hm
    go_wp2_with (first
     |(go_at_call 190;refine(WZ.o _).m ?_;rintro e w2 ⟨rfl,hw2⟩;subst w2)
     |(go_at_call 69;refine(Hb.Ti x _ HX.o hbd.o (by have:=J5.o;omega)).m ?_;rintro e w2 ⟨rfl,n8⟩;have tQ:=F n8;clear n8))
    go_roundw
    case rel=>exact⟨k+1,M0,Oc,by rw[HT.o];exact tQ⟩
    case measure=>simp[intOf];omega
   rw[if_pos rfl]at htk;have HT:=F htk;clear htk
   go_wp2_with (first
    |(go_at_call 190;refine(WZ.o _).m ?_;rintro e w2 ⟨rfl,hw2⟩;subst w2))
   go_at_call 69
   refine(Hb.Ti 37 37 rfl hbd.o (by have:=J5.o;omega)).m ?_;rintro e w2 ⟨rfl,n8⟩;have tQ:=F n8;clear n8;go_wp2_with fail
   go_at_call 69
   refine(Hb.Ti (pm q) _ (by have e:=ON ⟨q,a9T⟩;simp only at e;rw[e];rfl) tQ.o (by have:=J5.o;simp only[ae,ah,aO];omega)).m ?_;rintro e w3 ⟨rfl,qR⟩;have lA:=F qR;clear qR;go_wp2_with fail
   go_at_call 69
   refine(Hb.Ti (pm r) _ (by have e:=ON ⟨r,ZW⟩;simp only at e;rw[e];rfl) lA.o (by have:=J5.o;simp only[ae,ah,aO];omega)).m ?_;rintro e w4 ⟨rfl,PL⟩;have zA:=F PL;clear PL;go_wp2_with fail;go_roundw
   case rel=>exact⟨k+1,M0,Oc,by rw[HT.o];have h:=zA.o;simp only[bB,dE,dg]at h;exact h⟩
   case measure=>simp[intOf];omega
  obtain rfl:k=N:=M0
  go_wp2_with (first|(go_at_call 73;refine(Hb.str hbd.o).m ?_;rintro e w2 ⟨rfl,hb2⟩;have HB2:=F hb2;clear hb2))
  go_ret;refine⟨?_,HB2.o⟩;have hz:=eM.o;rw[iP]at hz;rw[hz,di];rfl

theorem WF(u:Url)(cs:Array Z)(A:Z)(w:H)(h:sY cs A u)(f1:u.usr.length<=102400000)(f2:u.er.length<=102400000) :
  bF prog 70 #[.agg cs] w (S (uf u)):=by
 have Y:=h.usr;have I:=h.er;clear h;obtain⟨R,hR⟩:=V (uf u);rw[<-hR];unfold uf at hR;generalize u.usr=x at Y f1 hR;generalize u.er=y at I f2 hR;have HR:=F hR;clear hR;go_enter func70,ntmps70
 go_wp2_with (first|(refine boxed rfl _ _ rfl cs rfl ?_;intro bx w1 hb1 hb2 hb3 hb4 hb5;have c1:=(hb4 1).trans Y;have c2:=(hb4 2).trans I;clear hb4 hb3))
 all_goals
  go_ret;refine⟨AK ?_,hb5⟩;rw[HR.o];simp_all[aB,Gs,Jl]

theorem Gk(l:List O)(k:Nat)(hk:k<l.length):cH (l.take (k+1))=cH (l.take k)++[47]++l[k]:=by
 rw[aH hk,jc]
theorem vO(l:List O)(k:Nat):(cH (l.take k)).length<=(cH l).length:=by
 conv=>rhs;rw[<-List.take_append_drop k l]
 rw[su,ae];omega
theorem Mt(u:Url)(cs:Array Z)(A:Z)(w:H)(h:sY cs A u)(hp:Sl w.heap.size w A (u.path.map S))(hl:(cH u.path).length<=1024000000) :
  bF prog 72 #[.agg cs] w (S (nh u)):=by
 have Y:=h.opq;have I:=h.flat;have h3:=h.path;clear h;obtain⟨R,hR⟩:=V (nh u);rw[<-hR];unfold nh at hR;generalize u.flat=fl at I hR;generalize u.path=ps at hp hl hR;cases ho:u.opq
 ·rw[ho]at Y hR
  obtain⟨av,c,hpv⟩:=cQ hp;rw[ay]at hpv;subst hpv;obtain⟨N,hN⟩:=V (ps.length);rw[<-hN]at h3 hp;have mc:=sw ps;have oP:N<=1024000000:=M0;clear mc;have HN:=F hN;clear hN;have HL:=F hl;clear hl;have HP:=F hp;clear hp;have hR2:R=cH ps:=hR;clear hR;have HR:=F hR2;clear hR2;clear ho I;go_enter func72,ntmps72
  go_wp2_with (first|(refine boxed rfl _ _ rfl cs rfl ?_;intro bx w1 hb1 hb2 hb3 hb4 hb5;have c1:=(hb4 16).trans Y;have c2:=(hb4 18).trans h3;clear hb4 hb3))
  have HB:=F hb5;clear hb5 hb1 hb2
  go_loopw [13] (λiv wr=>∃ k:Nat,k<=N/\iv=.int .i64 k/\Hid (Hb w1 (cH (ps.take k)) wr)) (λi _=>N-(intOf i).toNat)
  case atStart=>exact⟨0,M0,Oc,Hb.fresh w1⟩
  case round =>
   obtain⟨k,hk,rfl,hbd⟩:=hrel;by_cases hlt:k<N
   ·have hkl:k<ps.length:=by rw[<-HN.o];exact hlt
    obtain⟨b,o,rfl,hbb,hcc⟩:=gO ((HP.o.below HB.o).below (hbd.o.bL.m HB.o.size)) k hkl;have hjt:=Gk ps k hkl;have hjl:=vO ps (k+1);have hL:=HL.o;rw[hjt]at hjl;simp only[ae,ah,aO]at hjl;generalize ps[k]=piece at hcc hjt hjl;have hj1:(cH (ps.take k)).length+1+piece.length<=1024000000:=M0;clear hjl hL;have HJ:=F hjt;clear hjt;have HJ1:=F hj1;clear hj1
    go_wp2_with (first
     |(go_at_call 69;refine(Hb.Ti 47 _ rfl hbd.o (by have:=HJ1.o;omega)).m ?_;rintro e w2 ⟨rfl,n8⟩;have tQ:=F n8;clear n8)
     |(go_at_call 68;refine(Hb.ws piece tQ.o (by have:=HJ1.o;simp;omega)).m ?_;rintro e w3 ⟨rfl,qR⟩;have lA:=F qR;clear qR))
    go_roundw
    case rel=>exact⟨k+1,M0,Oc,by rw[HJ.o];exact lA⟩
    case measure=>simp[intOf];omega
   obtain rfl:k=N:=M0
   go_wp2_with (first|(go_at_call 73;refine(Hb.str hbd.o).m ?_;rintro e w2 ⟨rfl,hb2⟩;have HB2:=F hb2;clear hb2))
   go_ret;refine⟨?_,HB.o.trans (HB2.o.m HB.o.size)⟩;rw[HR.o,HN.o,di];rfl
 rw[ho]at Y hR;have hR2:R=fl:=hR;clear hR hp hl;subst hR2;go_enter func72,ntmps72
 go_wp2_with (first|(refine boxed rfl _ _ rfl cs rfl ?_;intro bx w1 hb1 hb2 hb3 hb4 hb5;have c1:=(hb4 16).trans Y;have c2:=(hb4 17).trans I;clear hb4 hb3))
 go_ret;exact⟨rfl,hb5⟩
end Go.Proofs.YtpbnfjdkdfombaaGreatDoor
set_option maxHeartbeats 40000000
namespace Go.Proofs.YtpbnfjdkdfombaaGreatDoor
open Tryz
open Go.RowKit
set_option maxRecDepth 10000
def CA:List (O×O):=[([97,109,112],[38]),([65,77,80],[38]),([108,116],[60]),([76,84],[60]),([103,116],[62]),([71,84],[62]),([113,117,111,116],[34]),([81,85,79,84],[34]),([110,98,115,112],[194,160]),([115,104,121],[194,173]),([110,111,116],[194,172]),([114,101,103],[194,174]),([99,111,112,121],[194,169]),([112,97,114,97],[194,182]),([115,101,99,116],[194,167]),([121,101,110],[194,165]),([100,101,103],[194,176]),([116,105,109,101,115],[195,151]),([101,97,99,117,116,101],[195,169]),([111,117,109,108],[195,182]),([115,122,108,105,103],[195,159])]
def rU:List (O×O):=[([110,111,116,105,110],[226,136,137]),([110,118,108,116],[60,226,131,146]),([110,118,103,116],[62,226,131,146]),([122,119,110,106],[226,128,140]),([122,119,106],[226,128,141]),([90,101,114,111,87,105,100,116,104,83,112,97,99,101],[226,128,139]),([78,111,66,114,101,97,107],[226,129,160]),([102,106,108,105,103],[102,106]),([99,111,112,121,115,114],[226,132,151]),([116,105,109,101,115,98,97,114],[226,168,177])]
def nd:List (O×Nat):=[([97,112,111,115],39),([99,111,108,111,110],58),([115,111,108],47),([98,115,111,108],92),([113,117,101,115,116],63),([110,117,109],35),([112,101,114,99,110,116],37),([99,111,109,109,97,116],64),([101,113,117,97,108,115],61),([112,108,117,115],43),([99,111,109,109,97],44),([112,101,114,105,111,100],46),([115,101,109,105],59),([101,120,99,108],33),([100,111,108,108,97,114],36),([97,115,116],42),([108,111,119,98,97,114],95),([103,114,97,118,101],96),([72,97,116],94),([108,112,97,114],40),([114,112,97,114],41),([108,115,113,98],91),([114,115,113,98],93),([108,99,117,98],123),([114,99,117,98],125),([118,101,114,98,97,114],124),([84,97,98],9),([78,101,119,76,105,110,101],10)]
def y8:List Nat:=[8364,129,8218,402,8222,8230,8224,8225,710,8240,352,8249,338,141,381,143,144,8216,8217,8220,8221,8226,8211,8212,732,8482,353,8250,339,157,382,376]
theorem ku{P:UInt8->Prop}(h:∀ k:Fin 256,P (UInt8.ofNat k.val))(x:UInt8):P x:=by
 have:=h ⟨x.toNat,x.toNat_lt⟩;rw[dN]at this;exact this
def look{α:Type}:List (O×α)->O->Option α
 | [],_=>none
 |p::l,s=>if s=p.1 then some p.2 else look l s
def yv(s:O):Option O:=look CA s
def nN(s:O):Nat:=(look nd s).getD 0
def iX(s:O):Option O:=if nN s≠0 then some (enc (nN s:Int))else look rU s
def jm(s:O):O:=if s.getLast? = some 59 then s.dropLast else s
def fT(s:O):Option O:=match yv (jm s)with
 |some t=>some t
 |none=>if s.getLast? = some 59 then iX (jm s)else none
def tL(n:Int):Int:=if 128<=n/\n<=159 then((y8.getD (n-128).toNat 0:Nat):Int)else n
def iH(n:Int):O:=if n=0 then enc 65533 else enc (tL n)
def uU(n:Int):Int:=if n<=1114112 then n else 1114112
def mB(base:Int):Int->O->Int×Nat
 |n,[]=>(n,0)
 |n,x::r=>if fg (G x) base<0 then(n,0)else((mB base (uU (n*base+fg (G x) base)) r).1,(mB base (uU (n*base+fg (G x) base)) r).2+1)
def FT(s:O):Bool:=decide (s[2]? = some 120\/s[2]? = some 88)
def Er(s:O)(b:Int)(f:Nat):O×Nat :=
 if(mB b 0 (s.drop f)).2=0 then([38],1)else(iH (mB b 0 (s.drop f)).1,f+(mB b 0 (s.drop f)).2+(if s[f+(mB b 0 (s.drop f)).2]? = some 59 then 1 else 0))
def vY(s:O):O×Nat:=if FT s=true then Er s 16 3 else Er s 10 2
def yz(c:UInt8):Bool:=decide ((65<=G c/\G c<=90)\/(97<=G c/\G c<=122))||decide (48<=G c/\G c<=57)||decide (c=61)
def VL(s:O)(n:Nat):Bool:=decide (s[n]? ≠ some 59)&&(match s[n+1]? with|some c=>yz c|none=>false)
def iC(s:O):Nat->O×Nat
 |0=>([38],1)
 |n+1=>match fT ((s.drop 1).take (n+1))with
  |none=>iC s n
  |some t=>if VL s (n+1)=true then([38],1)else(t,n+2)
def gX(s:O):O×Nat:=if Lib.hasPrefix s [38,35]=true then vY s else iC s (min 15 (s.length-1))
def na(x:UInt8):Bool:=x != 38
def vm:Nat->O->O
 |0,_=>[]
 |k+1,s=>s.takeWhile na++(if s.dropWhile na=[]then []else(gX (s.dropWhile na)).1++vm k ((s.dropWhile na).drop (gX (s.dropWhile na)).2))
def pl(s:O):O:=vm s.length s
theorem lO{α:Type}{l:List (O×α)}{s:O}{t:α}(h:look l s=some t):(s,t)∈l:=by
 induction l with
 |nil=>cases h
 |cons p l ih =>
  unfold look at h
  split at h
  ·next e=>cases h;subst e;exact fA
  exact cN _ (ih h)
theorem Jz(s:O):∀ n,1<=(iC s n).2/\(iC s n).2<=n+1
 |0=>⟨ag _,ag _⟩
 |n+1=>by
  have ih:=Jz s n;unfold iC
  split
  ·omega
  split
  ·exact⟨ag _,M0⟩
  exact⟨by show 1<=n+2;omega,ag _⟩
theorem Xz(base:Int):∀ (r:O) (n:Int),(mB base n r).2<=r.length
 | [],n=>ag _
 |x::r,n=>by
  have ih:=Xz base r (uU (n*base+fg (G x) base));unfold mB
  split
  ·exact aL _
  dsimp only;rw[ah];omega
theorem PT{s:O}(h:FT s=true):3<=s.length:=by
 unfold FT at h;rw[decide_eq_true_eq]at h
 have:2<s.length:=by
  rcases h with h|h <;>exact(bh.mp h).1
 omega
theorem XY{s:O}(b:Int){f:Nat}(h0:1<=f)(h:f<=s.length):1<=(Er s b f).2/\(Er s b f).2<=s.length:=by
 have hd:=Xz b (s.drop f) 0;rw[aj]at hd;unfold Er;generalize (mB b 0 (s.drop f)).2=k at hd ⊢
 split
 ·exact⟨ag _,M0⟩
 show 1<=f+k+(if s[f+k]? = some 59 then 1 else 0)/\f+k+(if s[f+k]? = some 59 then 1 else 0)<=s.length
 split
 ·next e =>
  have:=(bh.mp e).1;omega
 omega
theorem a40{s:O}(h:2<=s.length):1<=(vY s).2/\(vY s).2<=s.length:=by
 unfold vY
 split
 ·next e=>exact XY _ M0 (PT e)
 exact XY _ M0 h
theorem wA{s:O}(h:1<=s.length):1<=(gX s).2/\(gX s).2<=s.length:=by
 unfold gX
 split
 ·next e =>
  refine a40 ?_;unfold Lib.hasPrefix at e;have:=(ej.mp e).length_le
  simpa using this
 have:=Jz s (min 15 (s.length-1));omega
theorem nX(c:Int):(enc c).length<=4:=(oN c).2
theorem Pp:∀ p∈CA,p.2.length<=6:=P8
theorem Ku:∀ p∈rU,p.2.length<=6:=P8
theorem LO{s t:O}(h:fT s=some t):t.length<=6:=by
 unfold fT at h
 split at h
 ·next t' e=>cases h;exact Pp _ (lO e)
 split at h
 ·unfold iX at h
  split at h
  ·have e:=bj h
   subst e;exact am (nX _) P8
  exact Ku _ (lO h)
 cases h
theorem yU(s:O):∀ n,(iC s n).1.length<=6
 |0=>by show([38]:O).length<=6;decide
 |n+1=>by
  have ih:=yU s n;unfold iC
  split
  ·exact ih
  next t e =>
  split
  ·exact(by decide:([38]:O).length<=6)
  exact LO e
theorem VJ(s:O)(b:Int)(f:Nat):(Er s b f).1.length<=6:=by
 unfold Er
 split
 ·exact(by decide:([38]:O).length<=6)
 show(iH _).length<=6;unfold iH
 split
 iterate 2
  ·exact am (nX _) P8
theorem Dv(s:O):(gX s).1.length<=6:=by
 unfold gX
 split
 ·unfold vY
  split <;>exact VJ _ _ _
 exact yU _ _
theorem Cm:∀ (k m:Nat) (s:O),s.length<=k->s.length<=m->vm k s=vm m s
 |0,0,s,_,_=>rfl
 |0,m+1,s,h,_=>by
  obtain rfl:s=[]:=dy.mp M0;rfl
 |k+1,0,s,_,h=>by
  obtain rfl:s=[]:=dy.mp M0;rfl
 |k+1,m+1,s,Y,I=>by
  unfold vm
  split
  ·rfl
  next hne =>
  have hl:(s.dropWhile na).length<=s.length:=(ce _).length_le
  have h0:1<=(s.dropWhile na).length:=by
   rcases Nat.eq_zero_or_pos (s.dropWhile na).length with h|h
   ·exact absurd (dy.mp h) hne
   exact h
  have hn:=wA h0;rw[Cm k m _ (by rw[aj];omega) (by rw[aj];omega)]
theorem Uz:pl []=[]:=rfl
theorem z0(s:O):pl s=s.takeWhile na++(if s.dropWhile na=[]then []else(gX (s.dropWhile na)).1++pl ((s.dropWhile na).drop (gX (s.dropWhile na)).2)):=by
 cases s with
 |nil=>rfl
 |cons x r =>
  show vm (r.length+1) (x::r)=_;unfold vm
  split
  ·rfl
  next hne =>
  have hl:((x::r).dropWhile na).length<=(x::r).length:=(ce _).length_le
  have h0:1<=((x::r).dropWhile na).length:=by
   rcases Nat.eq_zero_or_pos ((x::r).dropWhile na).length with h|h
   ·exact absurd (dy.mp h) hne
   exact h
  have hn:=wA h0;rw[ah]at hl;rw[Cm r.length _ _ (by rw[aj];omega) (ag _)];rfl
theorem Cl{x:UInt8}(r:O)(h:x≠38):pl (x::r)=x::pl r:=by
 have X:na x=true:=by unfold na;simpa using h
 rw[z0 (x::r),z0 r,bJ X,aQ X];rfl
theorem IG(r:O):pl (38::r)=(gX (38::r)).1++pl ((38::r).drop (gX (38::r)).2):=by
 have X:¬ na 38=true:=P8;rw[z0 (38::r),bI X,aX X,if_neg Oc];rfl
theorem uw:∀ (n:Nat) (s:O),s.length<=n->(pl s).length<=6*s.length
 |0,s,h=>by
  obtain rfl:s=[]:=dy.mp M0;exact ag _
 |n+1,[],_=>ag _
 |n+1,x::r,h=>by
  rw[ah]at h;by_cases X:x=38
  ·subst X
   have Y:=wA (s:=38::r) Oc;have I:=Dv (38::r);have ih:=uw n ((38::r).drop (gX (38::r)).2) (by rw[aj,ah];omega);rw[aj,ah]at ih;rw[IG,ae,ah];omega
  have ih:=uw n r M0;rw[Cl r X,ah,ah];omega
end Go.Proofs.YtpbnfjdkdfombaaGreatDoor
set_option maxHeartbeats 40000000
namespace Go.Proofs.YtpbnfjdkdfombaaGreatDoor
open Tryz
open Go.RowKit
set_option maxRecDepth 10000
def nth{α:Type}:List α->Nat->Option α
 | [],_=>none
 |x::_,0=>some x
 |_::r,n+1=>nth r n
theorem vZ{α:Type}:∀ (l:List α) (i:Nat) (o:α),nth l i=some o->l.toArray[i]? = some o
 | [],_,_,h=>by cases h
 |x::r,0,o,h=>by simpa[nth]using h
 |x::r,n+1,o,h=>by
  have:=vZ r n o h
  simpa using this
section
variable {P:Program} {l:List Oper} {Q:Exit->Act->H->Prop} {S:H->Prop} {fuel:Nat} {listed:Array Bool} {a:Act} {w:H}
theorem tk(i:Nat){oi:Oper}{v:Z}(hi:nth l i=some oi)
  (hs:Region.noSelect l.toArray=true) (hf:Region.free .any l.toArray listed i=true) (hr:(Region.ready .any l.toArray listed).contains i=true)
  (hQ:∀ c a w,Q (.panic c) (a.put oi.dst v) w->Q (.panic c) a w) (hg:Region.wanted oi (yielded l.toArray a.tmps)=true) (hS:S w)
  (hy:∀ w,S w->(execOp a.eval oi).run P w=.ok (.value v) w)
  (h:wpAnyH P .any l.toArray Q S fuel (listed.setIfInBounds i true) (a.put oi.dst v) w):wpAnyH P .any l.toArray Q S (fuel+1) listed a w :=
 wpAnyH_take (vZ _ _ _ hi) hs hf hr hQ (Or.inl ⟨hg,hy⟩) hS h
theorem ek (i : Nat) {oi : Oper} {v : Z} {M : Array Bool} {b : Act} (h : wpAnyH P .any l.toArray Q S fuel M b w) (hi : nth l i = some oi := by rfl)
 (hs : Region.noSelect l.toArray = true := by kernel_rfl) (hf : Region.free .any l.toArray listed i = true := by kernel_rfl) (hr : (Region.ready .any l.toArray listed).contains i = true := by kernel_rfl)
 (hQ : ∀c a w,Q (.panic c) (a.put oi.dst v) w -> Q (.panic c) a w := by exact λ_ _ _ h => h) (hg : Region.wanted oi (yielded l.toArray a.tmps) = true := by rfl) (hS : S w := by assumption)
 (hy : ∀w,S w -> (execOp a.eval oi).run P w = .ok (.value v) w := by(intro wS hSw;(try dsimp only at hSw);go_simp;first|done|with_reducible rfl))
 (hM : listed.setIfInBounds i true = M := by((try simp only[a1o,List.set_cons_zero,List.set_cons_succ]);first|done|with_reducible rfl))
 (U : a.put oi.dst v = b := by((try simp only[Act.put,a1o,List.set_cons_zero,List.set_cons_succ]);first|done|with_reducible rfl)) : wpAnyH P .any l.toArray Q S (fuel + 1) listed a w := by
 subst hM;subst U;exact wpAnyH_take (vZ _ _ _ hi) hs hf hr hQ (Or.inl ⟨hg,hy⟩) hS h
theorem tq(i:Nat){oi:Oper}(hi:nth l i=some oi)(v:Z)(hy:∀ w,S w->(execOp a.eval oi).run P w=.ok (.value v) w)
 (h:wpAnyH P .any l.toArray Q S fuel (listed.setIfInBounds i true) (a.put oi.dst v) w)
 (hs:Region.noSelect l.toArray=true:=by kernel_rfl) (hf:Region.free .any l.toArray listed i=true:=by kernel_rfl) (hr:(Region.ready .any l.toArray listed).contains i=true:=by kernel_rfl)
 (hQ:∀ c a w,Q (.panic c) (a.put oi.dst v) w->Q (.panic c) a w:=by exact λ_ _ _ h=>h) (hg:Region.wanted oi (yielded l.toArray a.tmps)=true:=by rfl) (hS:S w:=by assumption):wpAnyH P .any l.toArray Q S (fuel+1) listed a w :=
 tk i (v:=v) hi hs hf hr hQ hg hS hy h
theorem rn(i:Nat){oi:Oper}(hr:Region.ready .any l.toArray listed=[i])(hi:nth l i=some oi)(hg:Region.wanted oi (yielded l.toArray a.tmps)=true)
  (h:∀ K':Act->H->Prop,Shut (∀a w,S w->(S w->wpAnyH P .any l.toArray Q S fuel (listed.setIfInBounds i true) a w)->K' a w)->Oper.wp P oi a w K' Q) :
  wpAnyH P .any l.toArray Q S (fuel+1) listed a w :=
 wpAnyH_ready (rs:=[i]) hr Oc (AllReadyH.cons (vZ _ _ _ hi) (λK hK=>by rw[if_pos hg];exact h K hK) AllReadyH.nil)
theorem rn2(i j:Nat){oi oj:Oper}(hr:Region.ready .any l.toArray listed=[i,j])(hi:nth l i=some oi)(hg:Region.wanted oi (yielded l.toArray a.tmps)=true)
  (h:∀ K':Act->H->Prop,Shut (∀a w,S w->(S w->wpAnyH P .any l.toArray Q S fuel (listed.setIfInBounds i true) a w)->K' a w)->Oper.wp P oi a w K' Q)
  (hj:nth l j=some oj) (hg2:Region.wanted oj (yielded l.toArray a.tmps)=true)
  (I:∀ K':Act->H->Prop,Shut (∀a w,S w->(S w->wpAnyH P .any l.toArray Q S fuel (listed.setIfInBounds j true) a w)->K' a w)->Oper.wp P oj a w K' Q) :
  wpAnyH P .any l.toArray Q S (fuel+1) listed a w :=
 wpAnyH_ready (rs:=[i,j]) hr Oc (AllReadyH.cons (vZ _ _ _ hi) (λK hK=>by rw[if_pos hg];exact h K hK) (AllReadyH.cons (vZ _ _ _ hj) (λK hK=>by rw[if_pos hg2];exact I K hK) AllReadyH.nil))
end
end Go.Proofs.YtpbnfjdkdfombaaGreatDoor
set_option maxHeartbeats 40000000
namespace Go.Proofs.YtpbnfjdkdfombaaGreatDoor
open Tryz
open Go.RowKit
set_option maxRecDepth 10000
theorem my:∀ (k u:Nat),u<10 ^ (k+1)->(Lib.decDigits u).length<=k+1
 |0,u,h=>by
  rw[Lib.decDigits,dif_pos (by simpa using h)];simp
 |k+1,u,h=>by
  rw[Lib.decDigits]
  split
  ·simp
  have:=my k (u/10) (by rw[b1o]at h;omega);rw[ae];simp;exact this
end Go.Proofs.YtpbnfjdkdfombaaGreatDoor
set_option maxHeartbeats 40000000
namespace Go.Proofs.YtpbnfjdkdfombaaGreatDoor
open Tryz
open Go.RowKit
set_option maxRecDepth 10000
def sF:Nat->O->List Int
 |0,_=>[]
 |_,[]=>[]
 |f+1,x::r=>((dr (x::r)).1:Int)::sF f ((x::r).drop (dr (x::r)).2)
def runes(l:O):List Int:=sF l.length l
theorem oA(f:Nat)(x:UInt8)(r:O):sF (f+1) (x::r)=((dr (x::r)).1:Int)::sF f ((x::r).drop (dr (x::r)).2):=rfl
theorem tI:∀ (f g:Nat) (l:O),l.length<=f->l.length<=g->sF f l=sF g l
 |0,g,l,h,_=>by
  obtain rfl:l=[]:=az M0;cases g <;>rfl
 |f+1,0,l,_,h=>by
  obtain rfl:l=[]:=az M0;rfl
 |f+1,g+1,[],_,_=>rfl
 |f+1,g+1,x::r,h,h'=>by
  have hn:=nV x r;rw[ah]at h h';have hd:((x::r).drop (dr (x::r)).2).length<=r.length:=by rw[aj,ah];omega
  rw[oA,oA,tI f g _ M0 M0]
theorem Mn:runes []=[]:=rfl
theorem wF(x:UInt8)(r:O):runes (x::r)=((dr (x::r)).1:Int)::runes ((x::r).drop (dr (x::r)).2):=by
 have hn:=nV x r;have hd:((x::r).drop (dr (x::r)).2).length<=r.length:=by rw[aj,ah];omega
 unfold runes;rw[ah,oA,tI r.length _ _ hd (ag _)]
theorem tc(l:O)(p:Nat):Utf8.decode (E l) p=dr (l.drop p):=by
 rw[Lib.decode_at,td,aF,aj];simp only[Ab,fz,dH]
theorem GU(s:ByteArray)(w:H)(hs:s.size<=307200000)(hT:uL w) :
  Calls prog 227 #[.string s] w λe w'=>ga w 3 (d8 (runes (kz (ls s)))) e w':=by
 obtain⟨i0,hi0,hz0,hz1,hz2⟩:=info_parts CU;have kb:=run_bytes_of_string (P:=prog) w 9 25 5 s underlying9 underlying25 underlying5;obtain⟨cp,hcp⟩:=V (grownCap w s.size 0 5);have hcp1:s.size<=cp:=by rw[hcp];exact grownCap_ge _ _ _ _
 have hcp2:cp<=maxLen:=by rw[hcp];exact grownCap_le_maxLen _ _ _ _ (by unfold maxLen;omega)
 rw[<-hcp]at kb;clear hcp;obtain⟨hat,hbw,hsz⟩:=Kw w s cp 5 ((bytesRow s cp).size,(bytesRow s cp).size+1)
 have hsl:Sl (w.heap.size+1) (w.alloc (.cells (bytesRow s cp) 5 ((bytesRow s cp).size,(bytesRow s cp).size+1))).drew (.slice (some ⟨w.heap.size,0,none⟩) s.size cp) (Lib.byteCells (ls s)) :=
  ⟨cp,by rw[Lib.byteCells_length,ec];exact hcp1,hcp2,.inr ⟨_,0,M0,by rw[Lib.byteCells_length,ec],hat⟩⟩
 rw[<-hsz]at hsl;have hd:=a08 (ls s) _ _ hsl (by rw[ec];omega) (hT.below hbw);have hdl:=nT _ (ls s) (ag _);rw[ec]at hdl;obtain⟨D,hD⟩:=V (kz (ls s));rw[<-hD]at hd hdl ⊢;clear hD;obtain⟨T,Tb⟩:=V (runes D);rw[<-Tb];have TL:=F Tb;clear Tb;have HD:=F hd;clear hd;have HB:=F hbw;clear hbw;have HZ:=F hsz;clear hsz hsl hat hT;go_enter func227,ntmps227
 go_wp2_with (go_at_call 58;refine(HD.o).m ?_;rintro e w1 ⟨rfl,hb1⟩;have HB1:=F hb1;clear hb1)
 have a35:r7 w w1:=(HB.o).trans ((HB1.o).m (by have:=HZ.o;omega));have a2b:=F a35;clear a35;have DL:(E D).size=D.length:=aF D;have WT:=F DL;clear DL
 go_loopw [3] (λout wr=>∃ (p:Nat) (acc:List Int),p<=D.length/\wr.heap[w1.heap.size]? = some (.stringIter (E D) p)/\wr.ownsRow (w1.heap.size+1) 3 1 out acc.length (d8 acc) /\
   acc++runes (D.drop p)=T/\acc.length<=p/\w1.heap.size<wr.heap.size/\r7 w1 wr) (λ_ wr=>D.length-wr.iterPos w1.heap.size)
 case atStart=>exact⟨0,[],M0,World.iter_heap _ _ _,⟨Oc,.inl ⟨rfl,rfl⟩⟩,by simpa using TL.o.symm,Oc,by simp[World.iter],(Below.refl _ _).alloc (ag _) _⟩
 case round =>
  obtain⟨p,acc,hp,hit,hown,hacc,hal,hwz,hbel⟩:=hrel;have HI:=F hit;clear hit;have HO:=F hown;clear hown;have HC:=F hacc;clear hacc;have lZ:=F hbel;clear hbel;by_cases hlt:p<D.length
  ·have hnx:∀ ty,(Instr.next (.pointer (some ⟨w1.heap.size,0,none⟩)) true ty).run prog wr=_:=λty=>Lib.run_next_any_at wr w1.heap.size (E D) p ty HI.o (by rw[WT.o];exact hlt)
   have hdd:=tc D p
   obtain⟨x,r,X⟩:∃ x r,D.drop p=x::r:=by
    cases h:D.drop p with
    |nil=>have:=congrArg List.length h;simp at this;omega
    |cons x r=>exact⟨x,r,rfl⟩
   have hn:=nV x r;have hr1:=Fs (x::r);have hlen:r.length+1=D.length-p:=by have:=congrArg List.length X;simp at this;omega
   have hc:=HC.o;rw[X,wF]at hc;rw[hdd,X]at hnx;have hdrop:(x::r).drop (dr (x::r)).2=D.drop (p+(dr (x::r)).2):=by rw[<-X,qg]
   rw[hdrop]at hc;obtain⟨rn,sz,hD⟩:∃ rn sz,dr (x::r)=(rn,sz):=⟨_,_,rfl⟩;rw[hD]at hnx hn hr1 hc;simp only at hnx hn hr1 hc;clear hD hdrop hdd;have Ei:=F hc;clear hc X;obtain⟨hn1,hn2⟩:=hn;have CO:p+sz<=D.length:=M0;clear hn2 hlen;have PD:=Lib.iterAt_heap wr w1.heap.size (E D) p (p+sz) HI.o;have ZE:=Lib.iterAt_size wr w1.heap.size (E D) (p+sz);have hOA:=ownsRow_iterAt HO.o (k:=w1.heap.size) (bV _) (E D) (p+sz);have IL:=Lib.below_iterAt (lZ.o) (k:=w1.heap.size) (ag _) (E D) (p+sz);obtain⟨wi,hwi⟩:=V (wr.iterAt w1.heap.size (E D) (p+sz));rw[<-hwi]at PD ZE hOA IL hnx;have hpos:wr.iterPos w1.heap.size=p:=iterPos_of HI.o;have HWI:=F hwi;clear hwi;have Br:=F PD;clear PD;have HIS:=F ZE;clear ZE;have Kc:=F hOA;clear hOA;have xt:=F IL;clear IL;have Ke:=F hpos;clear hpos;have hbase:w1.heap.size+1<=wi.heap.size:=by have:=HIS.o;omega
   go_wp2_with (at_builtin;go_must (refine et rfl (.tmp 13) (.tmp 16) _ rfl (w1.heap.size+1) 3 i0 _ 8 underlying225 hi0 hz0 hz1 hz2 rfl _ _ acc.length (d8 acc) rfl Kc.o (.int .i64 rn) rfl rfl M0 M0 hbase ?_);intro v2 w2 hown2 hw2 hb2;have eJ:=F hown2;clear hown2;have HB2:=F hb2;clear hb2)
   go_roundw
   case rel =>
    have hb2:=HB2.o;refine⟨p+sz,acc++[(rn:Int)],CO,(hb2.block _ M0).trans Br.o,?_,?_,?_,M0,(xt.o).trans (hb2.m M0)⟩
    ·have:=eJ.o
     rw[ae,dq]
     simpa[d8]using this
    ·rw[bB];exact Ei.o
    rw[ae,dq];omega
   case measure =>
    have e2:w2.iterPos w1.heap.size=p+sz:=iterPos_of (((HB2.o).block _ M0).trans Br.o);rw[e2,Ke.o];omega
  have hnx:∀ ty,(Instr.next (.pointer (some ⟨w1.heap.size,0,none⟩)) true ty).run prog wr=_:=λty=>Lib.run_next_end_at wr w1.heap.size (E D) p ty HI.o (by rw[WT.o];exact hlt)
  go_wp2
  go_ret;have ho:=HO.o;have hc:=HC.o;rw[bE M0,Mn,aV]at hc;rw[hc]at ho;have hb1:=(a2b.o).size;exact ga.mk ho M0 ((a2b.o).trans ((lZ.o).m hb1))
