/- Joined texts. -/
import Derived.Test.YtmndlfglgcioeaaGreatDoorEGEmA
import Derived.Test.YtmndlfglgcioeaaGreatDoorEGBld
import Derived.Test.YtmndlfglgcioeaaGreatDoorEGPctA
set_option maxHeartbeats 40000000
namespace Go.Proofs.YtmndlfglgcioeaaGreatDoor
open Tryz
open Go.RowKit
set_option maxRecDepth 10000
structure Hb (wb:World) (l:Bytes) (w:World):Prop where
 bld:∃ g,tD wb.heap.size g l w∧∀ k,g=some k->wb.heap.size<=k
 bL:Below wb.heap.size wb w
theorem Hb.fresh(wb:World):Hb wb [] (wb.alloc (.cells #[.pointer none,.slice none 0 0] 79)) :=
 ⟨⟨none,tD.fresh wb,fun _ h=>by cases h⟩,(Below.refl _ _).alloc (af _) _⟩
theorem Hb.step{wb w w':World}{l:Bytes}(h:Hb wb l w)(hb:Below w.heap.size w w'):Hb wb l w':=by
 obtain⟨g,h1,h2⟩:=h.bld;exact⟨⟨g,h1.below hb,h2⟩,h.bL.trans (hb.mono h.bL.size)⟩
theorem Hb.Bo{wb w w':World}{l':Bytes}{g:Option Nat}(hg:∀ k,g=some k->wb.heap.size<=k)(hb:Below wb.heap.size wb w)(h:FJ w wb.heap.size g l' w'):Hb wb l' w':=by
 obtain⟨g',a1,a2,a3⟩:=h;refine⟨⟨g',a1,fun k hk=>?_⟩,hb.trans (a3.below hb.size ?_)⟩
 ·rcases a2 with h|⟨k',h,h'⟩
  ·exact hg k (h▸hk)
  rw[h]at hk;injection hk with hk;have:=hb.size;omega
 rintro k (h|h)
 ·omega
 exact hg k h
theorem Hb.ws{wb w:World}{l:Bytes}(m:Bytes)(h:Hb wb l w)(hlen:l.length+m.length<=1099511627776) :
  Calls prog 49 #[.pointer (some ⟨wb.heap.size,0,none⟩),S m] w fun e w'=>e=.returned (.tuple #[.int .i64 m.length,.nilIface])∧Hb wb (l++m) w':=by
 obtain⟨g,h1,h2⟩:=h.bld;refine(iT m h1 hlen).mono ?_;rintro e w' ⟨rfl,hr⟩;exact⟨rfl,Hb.Bo h2 h.bL hr⟩
theorem Hb.Uv{wb w:World}{l:Bytes}(m:UInt8)(n:Int)(hn:n=b2 m)(h:Hb wb l w)(hlen:l.length+1<=1099511627776) :
  Calls prog 54 #[.pointer (some ⟨wb.heap.size,0,none⟩),.int .u8 n] w fun e w'=>e=.returned .nilIface∧Hb wb (l++[m]) w':=by
 subst hn;obtain⟨g,h1,h2⟩:=h.bld;refine(qx m h1 hlen).mono ?_;rintro e w' ⟨rfl,hr⟩;exact⟨rfl,Hb.Bo h2 h.bL hr⟩
theorem Hb.str{wb w:World}{l:Bytes}(h:Hb wb l w) :
  Calls prog 52 #[.pointer (some ⟨wb.heap.size,0,none⟩)] w fun e w'=>e=.returned (S l)∧Below wb.heap.size wb w':=by
 obtain⟨g,h1,h2⟩:=h.bld;refine(lM wb.heap.size h1 (af _) h2).mono ?_;rintro e w' ⟨rfl,hr⟩;exact⟨rfl,h.bL.trans hr⟩
theorem boxed{P:Program}{ops:Array Oper}{rest:List Oper}{o:Oper}{a:Act}{w:World}{Q:Exit->Act->World->Prop}(hg:o.guard=none)(t:TypeId)(x:Operand)(ho:o.op=.box t x)
  (cs:Array Value) (hx:a.eval x=.agg cs)
  (h:∀ bx w',w.heap.size<=bx->bx<w'.heap.size->w'.heap[bx]? = some (.cells cs t (0,0))->(∀i,w'.cell? ⟨bx,i,none⟩=cs[i]?)->Below w.heap.size w w'->wpList P ops Q rest (a.put o.dst (.pointer (some ⟨bx,0,none⟩))) w'):wpList P ops Q (o::rest) a w:=by
 refine Go.Great.wpList_boxTo hg t x ho _ rfl _ rfl cs (by rw[hx];rfl) ?_;refine h w.heap.size _ (af _) (by simp) (heap_alloc_new w _) (fun i=>?_) ((Below.refl _ _).alloc (af _) _);rw[World.cell?_alloc_mark]
theorem kT{B:Nat}{w:World}{av:Option Addr}{n c:Nat}{l:List Bytes}(h:Sl B w (.slice av n c) (l.map S))(k:Nat)(hk:k<l.length) :
  ∃b o,av=some ⟨b,o,none⟩∧b<B∧w.cell? ⟨b,o+k,none⟩=some (S l[k]):=by
 obtain⟨c',_,_,h⟩:=h;rcases h with⟨hn,_⟩|⟨b,o,hb,hv,ha⟩
 ·have:l=[]:=by simpa using hn
  subst this;simp at hk
 injection hv with h1 h2 h3
 refine⟨b,o,h1,hb,?_⟩;have:=ha k (by simpa using hk)
 simpa using this
def uH(u:Url):Bytes:=if u.usr=[]∧u.fp=[]then []else if u.fp=[]then u.usr++[64]else u.usr++[58]++u.fp++[64]
def bF:List Bytes->Bytes
 | []=>[]
 |p::r=>[47]++p++bF r
theorem sS:∀ (l m:List Bytes),bF (l++m)=bF l++bF m
 | [],m=>rfl
 |p::l,m=>by simp[bF,sS l m]
theorem jR(l:List Bytes)(p:Bytes):bF (l++[p])=bF l++[47]++p:=by simp[sS,bF]
def gX(u:Url):Bytes:=if u.opq then u.flat else bF u.path
theorem zk:∀ l:List Bytes,(bF l).length=l.length+(l.map List.length).sum
 | []=>rfl
 |p::r=>by simp[bF,zk r];omega
theorem Hc(a b:ByteArray):ls (a++b)=ls a++ls b:=by
 have h:=sH (ls a) (ls b);rw[ql,ql]at h;rw[h,dR]
theorem Kg(a:Array UInt8):ls ⟨a⟩=a.toList:=rfl

def mA(c:Int):Bool:=decide (c=9∨c=10∨c=12∨c=13∨c=32)
theorem jN(c:Int)(w:World):bV prog 37 #[.int .u8 c] w (.bool (mA c)):=by
 go_enter func37,ntmps37
 go_wp2_with fail
 all_goals
  go_ret;refine⟨dX ?_,rfl⟩;unfold mA;simp_all
def lI(c:Int):Bytes:=if c=38 then [38,97,109,112,59]else if c=34 then [38,35,51,52,59]else if c=39 then [38,35,51,57,59]else if c=60 then [38,35,54,48,59]else if c=62 then [38,35,54,50,59]else if c=96 then [38,35,57,54,59]else []
theorem Dw(c:Int):(lI c).length<=5:=by
 unfold lI;repeat' split
 all_goals simp
theorem tP(c:Int)(w:World):bV prog 53 #[.int .u8 c] w (S (lI c)):=by
 go_enter func53,ntmps53
 go_wp2_with fail
 all_goals
  go_ret;refine⟨By ?_,rfl⟩;unfold lI;simp_all[Kg]
def jm(x:UInt8):Bytes:=if lI (b2 x)=[]then [x]else lI (b2 x)
theorem Sx(x:UInt8):(jm x).length<=5:=by
 unfold jm;have:=Dw (b2 x)
 split
 ·simp
 exact this
def eX(l:Bytes):Bytes:=l.flatMap jm
theorem LY(l:Bytes)(k:Nat)(hk:k<l.length):eX (l.take (k+1))=eX (l.take k)++jm l[k]:=by
 unfold eX;rw[aI hk,cQ,ch,uQ,aG]
theorem vX:∀ l:Bytes,(eX l).length<=5*l.length
 | []=>by simp[eX]
 |x::l=>by
  have:=vX l;have h1:=Sx x;simp only[eX,ch,ae,ag]at this ⊢;omega
theorem vY(l:Bytes)(w:World)(hl:l.length<=200000000000):bN prog 21 #[.string (bs l)] w (S (eX l)):=by
 obtain⟨s,hs⟩:=az (bs l);have hsz:s.size=l.length:=by rw[hs,aM]
 have hby:∀ k (hk:k<s.size) (hk2:k<l.length),((s[k]'hk).toNat:Int)=b2 l[k]:=fun k hk hk2=>cJ hs hk hk2;rw[<-hs];clear hs;obtain⟨N,hN⟩:=az (s.size);have lk:s.size=N:=hN.symm;have p7:N<=200000000000:=by omega
 have kd:=h_ hby;clear hby;have fL:=h_ hsz;clear hsz hl hN;go_enter func21,ntmps21
 go_wp2_with fail
 go_loopw [8] (fun iv wr=>∃ k:Nat,k<=N∧iv=.int .i64 k∧Hid (Hb w (eX (l.take k)) wr)) (fun i _=>N-(intOf i).toNat)
 case atStart=>exact⟨0,by omega,by simp,Hb.fresh w⟩
 case round =>
  obtain⟨k,hk,rfl,hbd⟩:=hrel;by_cases hlt:k<N
  ·have nS:k<s.size:=by omega
   have hkl:k<l.length:=by have:=fL.out;omega
   have hx:=kd.out k nS hkl;have htk:=LY l k hkl;have hle:=vX (l.take k);rw[aE]at hle;have hl1:(eX (l.take k)).length<=1000000000000:=by omega
   have Us:=jr l[k];generalize l[k]=x at hx htk Us;have hel:=Dw (b2 x);have hone:jm x=if lI (b2 x)=[]then [x]else lI (b2 x):=rfl;have Gz:=fun W=>tP (b2 x) W;rw[hone]at htk;clear hone hle Us;obtain⟨E,hE⟩:=az (lI (b2 x));rw[<-hE]at htk Gz hel;clear hE;obtain⟨X,hX⟩:∃ X:Int,X=b2 x:=⟨_,rfl⟩;rw[<-hX]at hx Gz;have HX:=h_ hX;clear hX;have Le:=h_ Gz;clear Gz;have UM:=h_ hl1;clear hl1;have HEL:=h_ hel;clear hel;by_cases he:E=[]
   ·subst he
    rw[if_pos rfl]at htk;have HT:=h_ htk;clear htk;have e1:(bs []).toList.isEmpty=true:=by rw[ay];rfl
    have e2:(bs []).toList=[]:=by rw[ay]
    go_wp2_with (first
     |(go_at_call 53;refine(Le.out _).mono ?_;rintro e w2 ⟨rfl,hw2⟩;subst w2)
     |(go_at_call 54;refine(Hb.Uv x _ HX.out hbd.out (by have:=UM.out;omega)).mono ?_;rintro e w2 ⟨rfl,oL⟩;have ul:=h_ oL;clear oL)
     |fail)
    go_roundw
    case rel=>exact⟨k+1,by omega,by simp,by rw[HT.out];exact ul⟩
    case measure=>simp[intOf];omega
   rw[if_neg he]at htk;have HT:=h_ htk;clear htk;have e1:(bs E).toList.isEmpty=false:=by rw[ay];simpa using he
   have e2:¬ (bs E).toList=[]:=by rw[ay];exact he
   clear he
   go_wp2_with (first
    |(go_at_call 53;refine(Le.out _).mono ?_;rintro e w2 ⟨rfl,hw2⟩;subst w2)
    |(go_at_call 49;refine(Hb.ws E hbd.out (by have:=UM.out;have:=HEL.out;omega)).mono ?_;rintro e w2 ⟨rfl,oL⟩;have ul:=h_ oL;clear oL)
    |fail)
   go_roundw
   case rel=>exact⟨k+1,by omega,by simp,by rw[HT.out];exact ul⟩
   case measure=>simp[intOf];omega
  obtain rfl:k=N:=by omega
  go_wp2_with (first|(go_at_call 52;refine(Hb.str hbd.out).mono ?_;rintro e w2 ⟨rfl,hb2⟩;have HB2:=h_ hb2;clear hb2)|fail)
  go_ret;refine⟨?_,HB2.out⟩;have hz:=fL.out;rw[lk]at hz;rw[hz,dx];rfl

def p8(n:Nat):UInt8:=UInt8.ofNat (if n<10 then 48+n else 55+n)
theorem Qe:∀ k:Fin 16,((⟨#[48,49,50,51,52,53,54,55,56,57,65,66,67,68,69,70]⟩:ByteArray)[k.val]'(by have:=k.isLt;show k.val<16;omega))=p8 k.val:=by decide +kernel
def tW(set:Int)(x:UInt8):Bytes:=if ip set (b2 x)=true then [37,p8 (x.toNat/16),p8 (x.toNat%16)]else [x]
def dq(set:Int)(l:Bytes):Bytes:=l.flatMap (tW set)
theorem WQ(set:Int)(x:UInt8):(tW set x).length<=3:=by unfold tW;split <;>simp
theorem SR(set:Int)(l:Bytes)(k:Nat)(hk:k<l.length):dq set (l.take (k+1))=dq set (l.take k)++tW set l[k]:=by
 unfold dq;rw[aI hk,cQ,ch,uQ,aG]
theorem iw(set:Int):∀ l:Bytes,(dq set l).length<=3*l.length
 | []=>by simp[dq]
 |x::l=>by
  have:=iw set l;have h1:=WQ set x;simp only[dq,ch,ae,ag]at this ⊢;omega
theorem fz(set:Int)(l:Bytes)(w:World)(hl:l.length<=1024000000):bN prog 132 #[.string (bs l),.int .i64 set] w (S (dq set l)):=by
 obtain⟨s,hs⟩:=az (bs l);have hsz:s.size=l.length:=by rw[hs,aM]
 have hby:∀ k (hk:k<s.size) (hk2:k<l.length),((s[k]'hk).toNat:Int)=b2 l[k]:=fun k hk hk2=>cJ hs hk hk2;rw[<-hs];clear hs;obtain⟨N,hN⟩:=az (s.size);have lk:s.size=N:=hN.symm;have p7:N<=1024000000:=by omega
 have kd:=h_ hby;clear hby;have fL:=h_ hsz;clear hsz hl hN;go_enter func132,ntmps132
 go_wp2_with fail
 go_loopw [10] (fun iv wr=>∃ k:Nat,k<=N∧iv=.int .i64 k∧Hid (Hb w (dq set (l.take k)) wr)) (fun i _=>N-(intOf i).toNat)
 case atStart=>exact⟨0,by omega,by simp,Hb.fresh w⟩
 case round =>
  obtain⟨k,hk,rfl,hbd⟩:=hrel;by_cases hlt:k<N
  ·have nS:k<s.size:=by omega
   have hkl:k<l.length:=by have:=fL.out;omega
   have hx:=kd.out k nS hkl;have htk:=SR set l k hkl;have hle:=iw set (l.take k);rw[aE]at hle;have hl1:(dq set (l.take k)).length<=3072000000:=by omega
   have Us:=jr l[k];generalize l[k]=x at hx htk Us;unfold tW at htk;have hin:=fun W=>WT set (b2 x) Us.1 Us.2 W;clear hle;obtain⟨q,hq⟩:=az (x.toNat/16);obtain⟨r,hr⟩:=az (x.toNat%16);have a9I:q<16:=by have:=x.toNat_lt;omega
   have a0G:r<16:=by omega
   rw[<-hq,<-hr]at htk;obtain⟨F,hF⟩:=az (ip set (b2 x));rw[<-hF]at htk hin;clear hF;obtain⟨X,hX⟩:∃ X:Int,X=b2 x:=⟨_,rfl⟩;rw[<-hX]at hx hin Us;have hXn:X=(x.toNat:Int):=hX;have ht:Int.tdiv X 16=(q:Int):=by rw[hXn,hq];exact(Int.ofNat_tdiv x.toNat 16).symm
   have hm:Int.tmod X 16=(r:Int):=by rw[hXn,hr];exact(Int.ofNat_tmod x.toNat 16).symm
   have HX:=h_ hX;clear hX hXn hq hr;have XT:=h_ hin;clear hin;have UM:=h_ hl1;clear hl1;cases F
   ·rw[if_neg (by simp)]at htk
    have HT:=h_ htk;clear htk ht hm
    go_wp2_with (first
     |(go_at_call 165;refine(XT.out _).mono ?_;rintro e w2 ⟨rfl,hw2⟩;subst w2)
     |(go_at_call 54;refine(Hb.Uv x _ HX.out hbd.out (by have:=UM.out;omega)).mono ?_;rintro e w2 ⟨rfl,oL⟩;have ul:=h_ oL;clear oL)
     |fail)
    go_roundw
    case rel=>exact⟨k+1,by omega,by simp,by rw[HT.out];exact ul⟩
    case measure=>simp[intOf];omega
   rw[if_pos rfl]at htk;have HT:=h_ htk;clear htk
   go_wp2_with (first
    |(go_at_call 165;refine(XT.out _).mono ?_;rintro e w2 ⟨rfl,hw2⟩;subst w2)
    |fail)
   go_at_call 54
   refine(Hb.Uv 37 37 rfl hbd.out (by have:=UM.out;omega)).mono ?_;rintro e w2 ⟨rfl,oL⟩;have ul:=h_ oL;clear oL
   go_wp2_with fail
   go_at_call 54
   refine(Hb.Uv (p8 q) _ (by have e:=Qe ⟨q,a9I⟩;simp only at e;rw[e];rfl) ul.out (by have:=UM.out;simp only[ae,ag,aN];omega)).mono ?_;rintro e w3 ⟨rfl,rK⟩;have mr:=h_ rK;clear rK
   go_wp2_with fail
   go_at_call 54
   refine(Hb.Uv (p8 r) _ (by have e:=Qe ⟨r,a0G⟩;simp only at e;rw[e];rfl) mr.out (by have:=UM.out;simp only[ae,ag,aN];omega)).mono ?_;rintro e w4 ⟨rfl,QS⟩;have Al:=h_ QS;clear QS
   go_wp2_with fail
   go_roundw
   case rel=>exact⟨k+1,by omega,by simp,by rw[HT.out];have h:=Al.out;simp only[aT,bd,bJ]at h;exact h⟩
   case measure=>simp[intOf];omega
  obtain rfl:k=N:=by omega
  go_wp2_with (first|(go_at_call 52;refine(Hb.str hbd.out).mono ?_;rintro e w2 ⟨rfl,hb2⟩;have HB2:=h_ hb2;clear hb2)|fail)
  go_ret;refine⟨?_,HB2.out⟩;have hz:=fL.out;rw[lk]at hz;rw[hz,dx];rfl

theorem XG(u:Url)(cs:Array Value)(pv:Value)(w:World)(h:vo cs pv u)(f1:u.usr.length<=102400000)(f2:u.fp.length<=102400000) :
  bN prog 87 #[.agg cs] w (S (uH u)):=by
 have h1:=h.usr;have h2:=h.fp;clear h;obtain⟨R,hR⟩:=az (uH u);rw[<-hR];unfold uH at hR;generalize u.usr=x at h1 f1 hR;generalize u.fp=y at h2 f2 hR;have HR:=h_ hR;clear hR;go_enter func87,ntmps87
 go_wp2_with (first|(refine boxed rfl _ _ rfl cs rfl ?_;intro bx w1 hb1 hb2 hb3 hb4 hb5;have c1:=(hb4 1).trans h1;have c2:=(hb4 2).trans h2;clear hb4 hb3))
 all_goals
  go_ret;refine⟨By ?_,hb5⟩;rw[HR.out];simp_all[ay,Hc,Kg]

theorem G4(l:List Bytes)(k:Nat)(hk:k<l.length):bF (l.take (k+1))=bF (l.take k)++[47]++l[k]:=by
 rw[aI hk,jR]
theorem wV(l:List Bytes)(k:Nat):(bF (l.take k)).length<=(bF l).length:=by
 conv=>rhs;rw[<-List.take_append_drop k l]
 rw[sS,ae];omega
theorem NF(u:Url)(cs:Array Value)(pv:Value)(w:World)(h:vo cs pv u)(hp:Sl w.heap.size w pv (u.path.map S))(hl:(bF u.path).length<=1024000000) :
  bN prog 90 #[.agg cs] w (S (gX u)):=by
 have h1:=h.opq;have h2:=h.flat;have h3:=h.path;clear h;obtain⟨R,hR⟩:=az (gX u);rw[<-hR];unfold gX at hR;generalize u.flat=fl at h2 hR;generalize u.path=ps at hp hl hR;cases ho:u.opq
 ·rw[ho]at h1 hR
  obtain⟨av,c,hpv⟩:=dN hp;rw[am]at hpv;subst hpv;obtain⟨N,hN⟩:=az (ps.length);rw[<-hN]at h3 hp;have ou:=zk ps;have p7:N<=1024000000:=by omega
  clear ou;have HN:=h_ hN;clear hN;have HL:=h_ hl;clear hl;have HP:=h_ hp;clear hp;have hR2:R=bF ps:=hR;clear hR;have HR:=h_ hR2;clear hR2;clear ho h2;go_enter func90,ntmps90
  go_wp2_with (first|(refine boxed rfl _ _ rfl cs rfl ?_;intro bx w1 hb1 hb2 hb3 hb4 hb5;have c1:=(hb4 16).trans h1;have c2:=(hb4 18).trans h3;clear hb4 hb3))
  have HB:=h_ hb5;clear hb5 hb1 hb2
  go_loopw [13] (fun iv wr=>∃ k:Nat,k<=N∧iv=.int .i64 k∧Hid (Hb w1 (bF (ps.take k)) wr)) (fun i _=>N-(intOf i).toNat)
  case atStart=>exact⟨0,by omega,by simp,Hb.fresh w1⟩
  case round =>
   obtain⟨k,hk,rfl,hbd⟩:=hrel;by_cases hlt:k<N
   ·have hkl:k<ps.length:=by rw[<-HN.out];exact hlt
    obtain⟨b,o,rfl,hbb,hcc⟩:=kT ((HP.out.below HB.out).below (hbd.out.bL.mono HB.out.size)) k hkl;have hjt:=G4 ps k hkl;have hjl:=wV ps (k+1);have hL:=HL.out;rw[hjt]at hjl;simp only[ae,ag,aN]at hjl;generalize ps[k]=piece at hcc hjt hjl;have hj1:(bF (ps.take k)).length+1+piece.length<=1024000000:=by omega
    clear hjl hL;have HJ:=h_ hjt;clear hjt;have HJ1:=h_ hj1;clear hj1
    go_wp2_with (first
     |(go_at_call 54;refine(Hb.Uv 47 _ rfl hbd.out (by have:=HJ1.out;omega)).mono ?_;rintro e w2 ⟨rfl,oL⟩;have ul:=h_ oL;clear oL)
     |(go_at_call 49;refine(Hb.ws piece ul.out (by have:=HJ1.out;simp;omega)).mono ?_;rintro e w3 ⟨rfl,rK⟩;have mr:=h_ rK;clear rK)
     |fail)
    go_roundw
    case rel=>exact⟨k+1,by omega,by simp,by rw[HJ.out];exact mr⟩
    case measure=>simp[intOf];omega
   obtain rfl:k=N:=by omega
   go_wp2_with (first|(go_at_call 52;refine(Hb.str hbd.out).mono ?_;rintro e w2 ⟨rfl,hb2⟩;have HB2:=h_ hb2;clear hb2)|fail)
   go_ret;refine⟨?_,HB.out.trans (HB2.out.mono HB.out.size)⟩;rw[HR.out,HN.out,dx];rfl
 rw[ho]at h1 hR;have hR2:R=fl:=hR;clear hR hp hl;subst hR2;go_enter func90,ntmps90
 go_wp2_with (first|(refine boxed rfl _ _ rfl cs rfl ?_;intro bx w1 hb1 hb2 hb3 hb4 hb5;have c1:=(hb4 16).trans h1;have c2:=(hb4 17).trans h2;clear hb4 hb3))
 go_ret;exact⟨rfl,hb5⟩
end Go.Proofs.YtmndlfglgcioeaaGreatDoor
