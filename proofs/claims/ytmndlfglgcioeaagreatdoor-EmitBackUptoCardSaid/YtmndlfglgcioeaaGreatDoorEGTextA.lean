/- Joined texts. -/
import Derived.Test.YtmndlfglgcioeaaGreatDoorProg
import Derived.Test.YtmndlfglgcioeaaGreatDoorEGBase
set_option maxHeartbeats 40000000
namespace Go.Proofs.YtmndlfglgcioeaaGreatDoor
open Tryz
open Go.RowKit
set_option maxRecDepth 10000
def cN(c:Int):Int×Int×Int :=
 if 0xc2<=c∧c<=0xdf then(0x80,0xbf,2)
 else if c=0xe0 then(0xa0,0xbf,3)
 else if c=0xed then(0x80,0x9f,3)
 else if 0xe1<=c∧c<=0xef then(0x80,0xbf,3)
 else if c=0xf0 then(0x90,0xbf,4)
 else if 0xf1<=c∧c<=0xf3 then(0x80,0xbf,4)
 else if c=0xf4 then(0x80,0x8f,4)
 else(0,0,1)
theorem FU(c:Int)(w:World) :
  iz prog 85 #[.int .u8 c] w (.tuple #[.int .u8 (cN c).1,.int .u8 (cN c).2.1,.int .i64 (cN c).2.2]):=by
 go_enter func85,ntmps85
 go_wp2
 all_goals go_ret3
 all_goals refine⟨W4 ?_,rfl⟩
 all_goals try simp only[beq_iff_eq,beq_eq_false_iff_ne]at *
 all_goals unfold cN
 all_goals repeat (first|rw[if_pos (by omega)]|rw[if_neg (by omega)])
def dY(c:Int):Int×Int×Int :=
 if c<0x80 then(1,0,0)
 else if c<0xc2∨c>0xf4 then(0,0,0)
 else if c<0xe0 then(2,0x80,0xbf)
 else if c=0xe0 then(3,0xa0,0xbf)
 else if c=0xed then(3,0x80,0x9f)
 else if c=0xf0 then(4,0x90,0xbf)
 else if c=0xf4 then(4,0x80,0x8f)
 else if c<0xf0 then(3,0x80,0xbf)
 else(4,0x80,0xbf)
def enc(c:Int):Bytes:=ls (Utf8.encode c)
theorem vU{c:Int}(h:Utf8.valid c=false):Utf8.encode c=bs [0xef,0xbf,0xbd]:=by
 unfold Utf8.encode;rw[h];have e:(if false=true then c.toNat else Utf8.runeError)=65533:=rfl;simp only[e];rfl
theorem uk{c:Int}(h:c<0∨0x10ffff<c∨(0xd800<=c∧c<=0xdfff)):Utf8.valid c=false:=by
 unfold Utf8.valid;rw[gN];simp only[Bool.and_eq_false_iff,decide_eq_false_iff_not];omega
theorem Tk{c:Int}(h:c<0∨0x10ffff<c∨(0xd800<=c∧c<=0xdfff)):Ending.returned (.string ⟨#[239,191,189]⟩)=.returned (S (enc c)):=by
 unfold S enc;rw[ql,vU (uk h)];rfl
theorem Xe{c:Int}:Ending.returned (.string (Utf8.encode c))=.returned (S (enc c)):=by
 unfold S enc;rw[ql]
theorem gu(c:Int)(w:World) :
  iz prog 45 #[.int .i64 c] w (S (enc c)):=by
 go_enter func45,ntmps45
 go_wp2
 all_goals go_ret
 all_goals refine⟨?_,rfl⟩
 all_goals first|exact Xe|exact Tk (by omega)

theorem rE{c:Int}(h1:0<=c)(h2:c<0x80):enc c=[UInt8.ofNat c.toNat]:=by
 have hv:Utf8.valid c=true:=by unfold Utf8.valid;simp;omega
 unfold enc Utf8.encode;simp only[hv,if_true];rw[if_pos (by omega)];rfl
theorem vQ{c:Int}(h1:0x80<=c)(h2:c<0x800):enc c=[UInt8.ofNat (192+c/64).toNat,UInt8.ofNat (128+c%64).toNat]:=by
 have hv:Utf8.valid c=true:=by unfold Utf8.valid;simp;omega
 unfold enc Utf8.encode;simp only[hv,if_true];rw[if_neg (by omega),if_pos (by omega),show(192+c/64).toNat=192+c.toNat/64 by omega,show(128+c%64).toNat=128+c.toNat%64 by omega];rfl
theorem rF{c:Int}(h1:0x800<=c)(h2:c<0x10000)(h3:c<0xd800∨0xdfff<c) :
  enc c=[UInt8.ofNat (224+c/4096).toNat,UInt8.ofNat (128+c/64%64).toNat,UInt8.ofNat (128+c%64).toNat]:=by
 have hv:Utf8.valid c=true:=by unfold Utf8.valid;simp;omega
 unfold enc Utf8.encode;simp only[hv,if_true];rw[if_neg (by omega),if_neg (by omega),if_pos (by omega),show(224+c/4096).toNat=224+c.toNat/4096 by omega,show(128+c/64%64).toNat=128+c.toNat/64%64 by omega,show(128+c%64).toNat=128+c.toNat%64 by omega];rfl
theorem vR{c:Int}(h1:0x10000<=c)(h2:c<=0x10ffff) :
  enc c=[UInt8.ofNat (240+c/262144).toNat,UInt8.ofNat (128+c/4096%64).toNat,UInt8.ofNat (128+c/64%64).toNat,UInt8.ofNat (128+c%64).toNat]:=by
 have hv:Utf8.valid c=true:=by unfold Utf8.valid;simp;omega
 unfold enc Utf8.encode;simp only[hv,if_true];rw[if_neg (by omega),if_neg (by omega),if_neg (by omega),show(240+c/262144).toNat=240+c.toNat/262144 by omega,show(128+c/4096%64).toNat=128+c.toNat/4096%64 by omega,show(128+c/64%64).toNat=128+c.toNat/64%64 by omega,show(128+c%64).toNat=128+c.toNat%64 by omega];rfl
theorem AO{c:Int}(h:c<0∨0x10ffff<c∨(0xd800<=c∧c<=0xdfff)):enc c=[0xef,0xbf,0xbd]:=by
 unfold enc;rw[vU (uk h),dR]

theorem DV:(prog.info? 3).map (fun i=>(i.zero,i.size,i.bytes))=some (some (.int .i64 0),1,8):=by kernel_rfl
theorem j8:(prog.info? 5).map (fun i=>(i.zero,i.size,i.bytes))=some (some (.int .u8 0),1,1):=by kernel_rfl
theorem xJ{B:Nat}{w:World}{av:Option Addr}{n c:Nat}{l:List Int}(h:Sl B w (.slice av n c) (ed l))(k:Nat)(hk:k<l.length) :
  ∃b o,av=some ⟨b,o,none⟩∧b<B∧w.cell? ⟨b,o+k,none⟩=some (.int .i64 l[k]):=by
 obtain⟨c',_,_,h⟩:=h;rcases h with⟨hn,a,e⟩|⟨b,o,hb,e,hat⟩
 ·obtain rfl:l=[]:=by simpa using hn
  simp at hk
 injection e with e1 _ _
 refine⟨b,o,e1,hb,?_⟩;have:=hat k (by simpa using hk)
 simpa using this
theorem dN{B:Nat}{w:World}{v:Value}{xs:List Value}(h:Sl B w v xs):∃ a c,v=.slice a xs.length c:=by
 obtain⟨c,_,_,h⟩:=h;rcases h with⟨hn,a,rfl⟩|⟨b,o,_,rfl,_⟩
 ·subst hn;exact⟨a,c,rfl⟩
 exact⟨_,c,rfl⟩
theorem sH(l m:Bytes):bs l++bs m=bs (l++m):=by
 apply Sm
 simp[ls,bs]
theorem cJ{s:ByteArray}{X:Bytes}(h:s=bs X){k:Nat}(hk:k<s.size)(hx:k<X.length):((s[k]'hk).toNat:Int)=b2 X[k]:=by
 subst h;rfl
theorem dV(l:Bytes)(y:UInt8):Lib.byteCells (l++[y])=Lib.byteCells l++[.int .u8 (b2 y)]:=by simp[Lib.byteCells,b2]
theorem bX(l:Bytes)(a b:Nat):(bs l).extract a b=bs ((l.drop a).take (b-a)):=by
 apply Sm
 rw[dR];unfold ls bs;simp[ByteArray.data_extract,List.extract_eq_take_drop]

def sg(c:Int):Bool:=decide (0<=c∧c<=0x10ffff∧(c<0xd800∨0xdfff<c))
theorem pe{c:Int}:sg c=true ↔ 0<=c∧c<=0x10ffff∧(c<0xd800∨0xdfff<c):=by unfold sg;exact decide_eq_true_iff
theorem a5T{c:Int}{b:Bool}(h:b=true ↔ (0<=c∧c<=0x10ffff∧(c<0xd800∨0xdfff<c))):Ending.returned (.bool b)=.returned (.bool (sg c)):=by
 refine dX ?_;rw[cK,h,pe]
def bnd(j bias:Int):Int:=min (max (36*(j+1)-bias) 1) 26
theorem jd(j bias:Int):1<=bnd j bias∧bnd j bias<=26:=by unfold bnd;omega
def On(d:Int):Int:=if d<26 then 97+d else 22+d
def wrt(c:Int):Int:=if 97<=c∧c<=122 then c-97 else if 65<=c∧c<=90 then c-65 else if 48<=c∧c<=57 then c-22 else -1
theorem Ag(c:Int):-1<=wrt c∧wrt c<=35:=by unfold wrt;split <;>(try split) <;>(try split) <;>omega
def fI(c base:Int):Int :=
 let n:=if 48<=c∧c<=57 then c-48 else if 97<=c∧c<=122 then c-87 else if 65<=c∧c<=90 then c-55 else -1
 if base<=n then -1 else n
theorem qS(c:Int)(w:World):iz prog 233 #[.int .i64 c] w (.bool (sg c)):=by
 have h:c<0∨(0<=c∧0x10ffff<c)∨(0<=c∧c<=0x10ffff∧c<0xd800)∨(0<=c∧c<=0x10ffff∧0xd800<=c∧0xdfff<c)∨(0<=c∧c<=0x10ffff∧0xd800<=c∧c<=0xdfff):=by omega
 rcases h with h|⟨h,h1⟩|⟨h,h1,h2⟩|⟨h,h1,h2,h3⟩|⟨h,h1,h2,h3⟩
 all_goals
  go_enter func233,ntmps233
  go_wp2
  go_ret;exact⟨a5T (by simp;omega),rfl⟩
theorem yR(j bias:Int)(w:World)(h:0<=j∧j<=1024000000)(h2:0<=bias∧bias<=1000000):iz prog 241 #[.int .i64 j,.int .i64 bias] w (.int .i64 (bnd j bias)):=by
 go_enter func241,ntmps241
 go_wp2
 all_goals go_ret
 all_goals exact⟨jC (by unfold bnd;omega),rfl⟩
theorem yY(d:Int)(w:World)(h:0<=d∧d<36):iz prog 244 #[.int .i64 d] w (.int .u8 (On d)):=by
 have h1:d<26∨26<=d:=by omega
 rcases h1 with h1|h1
 all_goals
  go_enter func244,ntmps244
  go_wp2
  go_ret;exact⟨jC (by unfold On;split <;>omega),rfl⟩
theorem N5(c:Int)(w:World)(h:0<=c∧c<256):iz prog 240 #[.int .u8 c] w (.int .i64 (wrt c)):=by
 have h1:c<48∨(48<=c∧c<=57)∨(57<c∧c<65)∨(65<=c∧c<=90)∨(90<c∧c<97)∨(97<=c∧c<=122)∨122<c:=by omega
 rcases h1 with h1|⟨h1,h2⟩|⟨h1,h2⟩|⟨h1,h2⟩|⟨h1,h2⟩|⟨h1,h2⟩|h1
 all_goals
  go_enter func240,ntmps240
  go_wp2
  go_ret;exact⟨jC (by unfold wrt;repeat (first|rw[if_pos (by omega)]|rw[if_neg (by omega)]);try omega),rfl⟩
theorem AL{c base n:Int}(h:(48<=c∧c<=57∧n=c-48)∨(97<=c∧c<=122∧n=c-87)∨(65<=c∧c<=90∧n=c-55)∨(¬(48<=c∧c<=57)∧¬ (97<=c∧c<=122)∧¬ (65<=c∧c<=90)∧n=-1)) :
  fI c base=if base<=n then -1 else n:=by
 have:(if 48<=c∧c<=57 then c-48 else if 97<=c∧c<=122 then c-87 else if 65<=c∧c<=90 then c-55 else -1)=n:=by
  rcases h with⟨h1,h2,rfl⟩|⟨h1,h2,rfl⟩|⟨h1,h2,rfl⟩|⟨h1,h2,h3,rfl⟩
  ·rw[if_pos ⟨h1,h2⟩]
  ·rw[if_neg (by omega),if_pos ⟨h1,h2⟩]
  ·rw[if_neg (by omega),if_neg (by omega),if_pos ⟨h1,h2⟩]
  rw[if_neg h1,if_neg h2,if_neg h3]
 unfold fI;simp only[this]

theorem dB(c base:Int)(w:World)(h:0<=c∧c<256)(hb:0<=base∧base<=1000):iz prog 62 #[.int .u8 c,.int .i64 base] w (.int .i64 (fI c base)):=by
 have h1:c<48∨(48<=c∧c<=57)∨(57<c∧c<65)∨(65<=c∧c<=90)∨(90<c∧c<97)∨(97<=c∧c<=122)∨122<c:=by omega
 rcases h1 with h1|⟨h1,h2⟩|⟨h1,h2⟩|⟨h1,h2⟩|⟨h1,h2⟩|⟨h1,h2⟩|h1
 all_goals
  go_enter func62,ntmps62
  go_wp2
  all_goals go_ret
  all_goals exact⟨jC (by first|(rw[AL (n:=c-48) (by omega)];split <;>omega)|(rw[AL (n:=c-87) (by omega)];split <;>omega)|(rw[AL (n:=c-55) (by omega)];split <;>omega)|(rw[AL (n:=-1) (by omega)];split <;>omega)),rfl⟩

def ri:List Int->Int->Int->Int
 | [],_,f=>f
 |c::r,low,f=>ri r low (if low<=c∧(f<0∨c<f)then c else f)
theorem Sk{l:List Int}{k:Nat}(h:k<l.length)(low f:Int):ri (l.drop k) low f=ri (l.drop (k+1)) low (if low<=l[k]∧(f<0∨l[k]<f)then l[k]else f):=by
 rw[aq h];rfl
theorem MQ(l:List Int)(low:Int)(v:Value)(w:World)(B:Nat)(h:Sl B w v (ed l))(hl:l.length<=1024000000) :
  iz prog 236 #[v,.int .i64 low] w (.int .i64 (ri l low (-1))):=by
 obtain⟨av,c,rfl⟩:=dN h;rw[show(ed l).length=l.length by simp]at h ⊢;have hat:=xJ h;clear h;have HAT:=h_ hat;clear hat;obtain⟨L,hL⟩:=az (l.length);rw[<-hL]at hl ⊢;have HL:=h_ hL;clear hL;obtain⟨T,hT⟩:=az (ri l low (-1));rw[<-hT];have HT:=h_ hT;clear hT;go_enter func236,ntmps236
 go_wp2
 go_loopw [5,10] (fun f i wr=>∃ (k:Nat) (f':Int),k<=L∧i=.int .i64 k∧f=.int .i64 f'∧ri (l.drop k) low f'=T∧wr=w) (fun _ i _=>L-(intOf i).toNat)
 case atStart=>exact⟨0,-1,aK _,rfl,rfl,by rw[cU];exact HT.out.symm,rfl⟩
 case round =>
  obtain⟨k,f,hk,rfl,rfl,hf,rfl⟩:=hrel;by_cases hlt:k<L
  ·have hx:k<l.length:=by have:=HL.out;omega
   obtain⟨b,o,rfl,hb,hcell⟩:=HAT.out k hx;rw[Sk hx]at hf;obtain⟨x,mZ⟩:=az (l[k]);rw[<-mZ]at hf hcell;clear mZ;have HF:=h_ hf;clear hf;have hcs:x<low∨(low<=x∧f<0)∨(low<=x∧0<=f∧x<f)∨(low<=x∧0<=f∧f<=x):=by omega
   rcases hcs with h1|⟨h1,h2⟩|⟨h1,h2,h3⟩|⟨h1,h2,h3⟩
   all_goals
    go_wp2
    go_roundw
    case rel =>
     have hf:=HF.out
     first
      |(rw[if_pos (by omega)]at hf;exact⟨k+1,x,hlt,by simp,rfl,hf,trivial⟩)
      |(rw[if_neg (by omega)]at hf;exact⟨k+1,f,hlt,by simp,rfl,hf,trivial⟩)
    case measure=>simp[intOf];omega
  obtain rfl:L=k:=by omega
  rw[dK (by have:=HL.out;omega)]at hf;have hf':f=T:=hf;clear hf;subst hf'
  go_wp2
  go_ret;exact⟨rfl,rfl⟩

def ku:Nat->Int->Int->Int
 |0,e,k=>k+36*e/(e+38)
 |f+1,e,k=>if 455<e then ku f (e/35) (k+36)else k+36*e/(e+38)
theorem FW(f:Nat){e k:Int}(h:e<=455):ku f e k=k+36*e/(e+38):=by
 cases f with
 |zero=>rfl
 |succ f=>unfold ku;rw[if_neg (by omega)]
def nb(d n:Int)(first:Bool):Int :=
 let e:=if first then d/700 else d/2
 ku 64 (e+e/n) 0
theorem kp{a b:Int}(h:0<=a):Int.tdiv a b=a/b:=a2d h
theorem nA(d n:Int)(first:Bool)(w:World)(hd:0<=d∧d<=1099511627776)(hn:1<=n∧n<=1000) :
  iz prog 235 #[.int .i64 d,.int .i64 n,.bool first] w (.int .i64 (nb d n first)):=by
 obtain⟨T,hT⟩:=az (nb d n first);rw[<-hT];obtain⟨e,he⟩:=az (if first then d/700 else d/2);have hT2:T=ku 64 (e+e/n) 0:=by rw[hT,he];rfl
 clear hT;have he2:0<=e∧e<=549755813888:=by rw[he];split <;>omega
 have hq:0<=e/n∧e/n<=e:=⟨du he2.1 (by omega),nP _ he2.1⟩;have hen:Int.tdiv e n=e/n:=kp he2.1;have HT:=h_ hT2;clear hT2;cases first
 all_goals
  simp only[fd,if_false,if_true]at he;have hd1:Int.tdiv d 700=d/700:=kp hd.1;have hd2:Int.tdiv d 2=d/2:=kp hd.1;subst he;go_enter func235,ntmps235
  go_wp2
  go_loopw [0,7] (fun ev kv wr=>∃ (f:Nat) (e k:Int),ev=.int .i64 e∧kv=.int .i64 k∧ku f e k=T∧0<=e∧e<2 ^ f∧e<=1099511627776∧0<=k∧k+36*f<=2304∧wr=w) (fun ev _ _=>(intOf ev).toNat)
  case atStart=>exact⟨64,_,0,rfl,rfl,HT.out.symm,by omega,by omega,by omega,by omega,by omega,rfl⟩
  case round =>
   obtain⟨f,e,k,rfl,rfl,hg,he0,hef,hel,hk0,hkf,rfl⟩:=hrel;by_cases hlt:455<e
   ·cases f with
    |zero=>simp at hef;omega
    |succ f =>
     have hg2:ku f (e/35) (k+36)=T:=by
      unfold ku at hg;rw[if_pos hlt]at hg;exact hg
     rw[ml]at hef;have HG:=h_ hg2;clear hg2 hg;have a4z:e/35<2 ^ f:=by omega
     have HEF:=h_ a4z;clear a4z hef;have h35:Int.tdiv e 35=e/35:=kp he0
     go_wp2
     go_roundw
     case rel=>exact⟨f,e/35,k+36,by simp,by simp,HG.out,by omega,HEF.out,by omega,by omega,by omega,trivial⟩
     case measure=>simp[intOf];omega
   rw[FW f (by omega)]at hg;have hq:0<=36*e/(e+38)∧36*e/(e+38)<=36*e:=⟨du (by omega) (by omega),nP _ (by omega)⟩;have ht:Int.tdiv (36*e) (e+38)=36*e/(e+38):=kp (by omega);clear hef
   go_wp2
   go_ret;exact⟨jC (by first|exact hg|rfl),rfl⟩

def og:Bytes->Nat->Int->Int->Int->Int×Int
 | [],_,_,_,_=>(0,0)
 |x::r,j,sum,wt,bias =>
  let c:=wrt (b2 x)
  if c<0 then(0,0)
  else if 2147483647<sum+c*wt then(0,0)
  else if c<bnd j bias then(sum+c*wt,(j:Int)+1)
  else og r (j+1) (sum+c*wt) (wt*(36-bnd j bias)) bias
theorem Nf{l:Bytes}{k:Nat}(h:k<l.length)(sum wt bias:Int):og (l.drop k) k sum wt bias =
  if wrt (b2 l[k])<0 then(0,0)else if 2147483647<sum+wrt (b2 l[k])*wt then(0,0)else if wrt (b2 l[k])<bnd k bias then(sum+wrt (b2 l[k])*wt,(k:Int)+1)
  else og (l.drop (k+1)) (k+1) (sum+wrt (b2 l[k])*wt) (wt*(36-bnd k bias)) bias:=by
 rw[aq h];rfl
def rd(l:Bytes)(bias:Int):Int×Int:=og l 0 0 1 bias
theorem BA{a b:Int}{t:Int×Int}(h:(a,b)=t):Ending.returned (.tuple #[.int .i64 a,.int .i64 b])=.returned (.tuple #[.int .i64 t.1,.int .i64 t.2]):=by subst h;rfl
theorem Sp{c wt:Int}(h:0<=c∧c<=36)(hw:1<=wt∧wt<=77309411292):0<=c*wt∧c*wt<=2783138806512:=by
 refine⟨eD h.1 (by omega),?_⟩;have h1:c*wt<=36*wt:=fh h.2 (by omega);omega
theorem Hd{c wt:Int}(h:1<=c)(hw:1<=wt):wt<=c*wt:=by
 have h1:1*wt<=c*wt:=fh h (by omega);omega
theorem Ev(s:ByteArray)(bias:Int)(w:World)(hs:s.size<=921600000)(hb:0<=bias∧bias<=1000000) :
  iz prog 232 #[.string s,.int .i64 bias] w (.tuple #[.int .i64 (rd (ls s) bias).1,.int .i64 (rd (ls s) bias).2]):=by
 obtain⟨T,hT⟩:=az (rd (ls s) bias);rw[<-hT];have HT:=h_ hT;clear hT;obtain⟨l,hl⟩:=az (ls s);have hsl:s=bs l:=by rw[hl,ql]
 obtain⟨L,hL⟩:=az (s.size);have hLl:L=l.length:=by rw[hL,hl,fx]
 have hsz:s.size=L:=hL.symm;have HL:=h_ hLl;clear hLl;have HS:=h_ hsl;clear hsl;have HLS:=h_ hl;clear hl;rw[hsz]at hs;clear hL;go_enter func232,ntmps232
 go_wp2
 go_loopw [6,7,13] (fun sv wv iv wr=>∃ (k:Nat) (sum wt:Int),k<=L∧iv=.int .i64 k∧sv=.int .i64 sum∧wv=.int .i64 wt∧og (l.drop k) k sum wt bias=T∧0<=sum∧sum<=2147483647∧1<=wt∧wt<=77309411292∧wr=w) (fun _ _ i _=>L-(intOf i).toNat)
 case atStart=>exact⟨0,0,1,aK _,rfl,rfl,rfl,by rw[cU,HLS.out];exact HT.out.symm,by omega,by omega,by omega,by omega,rfl⟩
 case round =>
  obtain⟨k,sum,wt,hk,rfl,rfl,rfl,hf,hs0,hs1,hw0,hw1,rfl⟩:=hrel;by_cases hlt:k<L
  ·have hx:k<l.length:=by have:=HL.out;omega
   have hk2:k<s.size:=by omega
   rw[Nf hx,<-cJ HS.out hk2 hx]at hf;have hx8:0<=((s[k]'hk2).toNat:Int)∧((s[k]'hk2).toNat:Int)<256:=by have:=(s[k]'hk2).toNat_lt;omega
   have hcr:=Ag ((s[k]'hk2).toNat:Int);obtain⟨c,hc⟩:=az (wrt ((s[k]'hk2).toNat:Int));rw[<-hc]at hf hcr;have Rh:=fun W=>N5 ((s[k]'hk2).toNat:Int) W hx8;rw[<-hc]at Rh;have HWA:=h_ Rh;clear Rh hx8 hc;have hbr:=jd k bias;have hba:=fun W=>yR k bias W (by omega) hb;obtain⟨b,hb'⟩:∃ b,b=bnd k bias:=⟨_,rfl⟩;rw[<-hb']at hf hba hbr;have vj:=h_ hba;clear hba hb';by_cases hc0:c<0
   ·rw[if_pos hc0]at hf
    have HF:=h_ hf;clear hf
    go_wp2_with (first|(go_at_call 240;refine(HWA.out _).mono ?_;rintro e w2 ⟨rfl,rfl⟩)|fail)
    go_ret2
    exact⟨BA HF.out,rfl⟩
   rw[if_neg hc0]at hf;have hm:=Sp (c:=c) (wt:=wt) (by omega) ⟨hw0,hw1⟩;have hm1:=fun h=>Hd (c:=c) (wt:=wt) h hw0;obtain⟨p,hp⟩:=az (c*wt);rw[<-hp]at hf hm hm1;by_cases hgr:2147483647<sum+p
   ·rw[if_pos hgr]at hf
    have HF:=h_ hf;clear hf;rw[hp]at hgr hm;clear hm1
    go_wp2_with (first|(go_at_call 240;refine(HWA.out _).mono ?_;rintro e w2 ⟨rfl,rfl⟩)|fail)
    go_ret2
    exact⟨BA HF.out,rfl⟩
   rw[if_neg hgr]at hf;have hcb:c<b∨b<=c:=by omega
   rcases hcb with hcb|hcb
   ·rw[if_pos hcb]at hf
    have HF:=h_ hf;clear hf;rw[hp]at hgr hm HF;clear hm1
    go_wp2_with (first|(go_at_call 240;refine(HWA.out _).mono ?_;rintro e w2 ⟨rfl,rfl⟩)|(go_at_call 241;refine(vj.out _).mono ?_;rintro e w2 ⟨rfl,rfl⟩)|fail)
    go_ret2
    exact⟨BA HF.out,rfl⟩
   rw[if_neg (by omega)]at hf;have hwl:wt<=2147483647:=by have:=hm1 (by omega);omega
   have hm2:=Sp (c:=36-b) (wt:=wt) (by omega) ⟨hw0,hw1⟩;have Wa:36-b<=35:=by omega
   have hm4:=Hd (c:=36-b) (wt:=wt) (by omega) hw0
   have hm5:(36-b)*wt<=77309411292:=by
    have h1:(36-b)*wt<=35*wt:=fh Wa (by omega);omega
   rw[qi (36-b) wt]at hm2 hm4 hm5;have HF:=h_ hf;clear hf;rw[hp]at hgr hm HF;clear hm1
   go_wp2_with (first|(go_at_call 240;refine(HWA.out _).mono ?_;rintro e w2 ⟨rfl,rfl⟩)|(go_at_call 241;refine(vj.out _).mono ?_;rintro e w2 ⟨rfl,rfl⟩)|fail)
   go_roundw
   case rel=>exact⟨k+1,sum+c*wt,wt*(36-b),hlt,by simp,rfl,rfl,HF.out,by omega,by omega,by omega,by omega,trivial⟩
   case measure=>simp[intOf];omega
  obtain rfl:L=k:=by omega
  rw[dK (by have:=HL.out;omega)]at hf;have HF:=h_ hf;clear hf
  go_wp2
  go_ret2
  exact⟨BA HF.out,rfl⟩

def db(d:Int):UInt8:=UInt8.ofNat (On d).toNat
theorem LM{d:Int}(h:0<=d∧d<36):48<=On d∧On d<=122:=by unfold On;split <;>omega
theorem Jn{d:Int}(h:0<=d∧d<36):b2 (db d)=On d:=by
 have:=LM h;unfold b2 db;rw[ga];omega
def nY:Nat->Nat->Int->Int->Bytes
 |0,_,d,_=>[db d]
 |f+1,j,d,bias=>if d<bnd j bias then [db d]else db (bnd j bias+(d-bnd j bias)%(36-bnd j bias))::nY f (j+1) ((d-bnd j bias)/(36-bnd j bias)) bias
def nZ(d bias:Int):Bytes:=nY 40 0 d bias
theorem mG(f j:Nat){d bias:Int}(h:d<bnd j bias):nY f j d bias=[db d]:=by
 cases f with
 |zero=>rfl
 |succ f=>unfold nY;rw[if_pos h]
theorem mH{f j:Nat}{d bias:Int}(h:¬ d<bnd j bias)(hf:d<2 ^ f)(h0:0<=d) :
  ∃g,f=g+1∧nY f j d bias=db (bnd j bias+(d-bnd j bias)%(36-bnd j bias))::nY g (j+1) ((d-bnd j bias)/(36-bnd j bias)) bias∧(d-bnd j bias)/(36-bnd j bias)<2 ^ g:=by
 have hb:=jd j bias;cases f with
 |zero=>simp at hf;omega
 |succ g =>
  refine⟨g,rfl,by rw[nY,if_neg h],?_⟩;rw[ml]at hf
  have h1:(d-bnd j bias)/(36-bnd j bias)<=(d-bnd j bias)/2:=by
   refine Int.le_ediv_of_mul_le (by omega) ?_;have h2:(d-bnd j bias)/(36-bnd j bias)*(36-bnd j bias)<=d-bnd j bias:=Int.ediv_mul_le _ (by omega);have h3:(d-bnd j bias)/(36-bnd j bias)*2<=(d-bnd j bias)/(36-bnd j bias)*(36-bnd j bias):=Va (by omega) (du (by omega) (by omega));omega
  omega
def a8B(w:World)(base:Nat)(l:Bytes):Ending->World->Prop:=fun en w' =>
 ∃v',en=.returned v'∧w'.ownsRow base 5 1 v' l.length (Lib.byteCells l)∧w.heap.size<=w'.heap.size∧Below base w w'
theorem N6(v:Value)(l:Bytes)(d bias:Int)(base:Nat)(w:World)(h:w.ownsRow base 5 1 v l.length (Lib.byteCells l))(hl:l.length<=1024000000)(hbase:base<=w.heap.size)
  (hd:0<=d∧d<1099511627776) (hb:0<=bias∧bias<=1000000) :
  Calls prog 237 #[v,.int .i64 d,.int .i64 bias] w fun e w'=>a8B w base (l++nZ d bias) e w':=by
 obtain⟨i8,tT,Ch,mK,n9⟩:=info_parts j8;obtain⟨T,hT⟩:=az (l++nZ d bias);rw[<-hT];have HT:=h_ hT;clear hT;have H:=h_ h;clear h;have yD:=h_ hl;clear hl;go_enter func237,ntmps237
 go_wp2
 go_loopw [0,1,7] (fun ov dv jv wr=>∃ (f j:Nat) (d:Int) (acc:Bytes),dv=.int .i64 d∧jv=.int .i64 j∧wr.ownsRow base 5 1 ov acc.length (Lib.byteCells acc)∧acc.length<=1024000000+j ∧
   acc++nY f j d bias=T∧0<=d∧d<1099511627776∧d<2 ^ f∧j+f<=40∧w.heap.size<=wr.heap.size∧Below base w wr) (fun _ dv _ _=>(intOf dv).toNat)
 case atStart=>exact⟨40,0,d,l,rfl,rfl,H.out,by have:=yD.out;omega,HT.out.symm,hd.1,hd.2,by omega,by omega,af _,Below.refl _ _⟩
 case round =>
  obtain⟨f,j,d,acc,rfl,rfl,hown,hal,hacc,hd0,hd1,hdf,hjf,hwz,hbel⟩:=hrel;have HO:=h_ hown;clear hown;have HB:=h_ hbel;clear hbel;have hbr:=jd j bias;have hba:=fun W=>yR j bias W (by omega) hb;obtain⟨b,hb'⟩:∃ b,b=bnd j bias:=⟨_,rfl⟩;have hlast:=mG f j (d:=d) (bias:=bias);have hmore:=mH (f:=f) (j:=j) (d:=d) (bias:=bias);rw[<-hb']at hbr hba hlast hmore;have vj:=h_ hba;clear hba hb';by_cases hlt:d<b
  ·rw[hlast hlt]at hacc
   have hdr:0<=d∧d<36:=by omega
   have hdg:=fun W=>yY d W hdr;have hb2:=Jn hdr;have hsn:=dV acc (db d);rw[hb2]at hsn;rw[hacc]at hsn;have hTl:T.length=acc.length+1:=by rw[<-hacc];simp
   obtain⟨y,hy⟩:=az (On d);rw[<-hy]at hdg hsn;have OE:=h_ hdg;clear hdg hb2 hy hlast hmore hdf hdr;have nO:=h_ hsn;clear hsn hacc;have Ap:=h_ hTl;clear hTl;obtain⟨al,wF⟩:∃ al,al=acc.length:=⟨_,rfl⟩;have ho:=HO.out;rw[<-wF]at hal ho;have yn:=h_ ho;clear ho HO;have pp:=h_ wF;clear wF
   go_wp2_with (first
    |(go_at_call 241;refine(vj.out _).mono ?_;rintro e w2 ⟨rfl,rfl⟩)
    |(go_at_call 244;refine(OE.out _).mono ?_;rintro e w2 ⟨rfl,rfl⟩)
    |(at_builtin;(refine eO rfl (.tmp 17) (.tmp 20) _ rfl base 5 i8 (.int .u8 0) 1 underlying50 tT Ch mK n9 (by decide) _ _ _ (Lib.byteCells acc) rfl yn.out (.int .u8 y) rfl rfl (by omega) (by decide) (by omega) ?_);intro v2 w2 hown2 hw2 hb2;have fg:=h_ hown2;clear hown2;have HB2:=h_ hb2;clear hb2))
   go_ret;refine⟨_,rfl,?_,by omega,HB.out.trans HB2.out⟩;rw[Ap.out,nO.out,<-pp.out];exact fg.out
  obtain⟨g,rfl,hmo,a4y⟩:=hmore hlt hdf hd0;rw[hmo]at hacc;have hr:0<=(d-b)%(36-b)∧(d-b)%(36-b)<36-b:=⟨pq _ (by omega),lD _ (by omega)⟩;have hq:0<=(d-b)/(36-b)∧(d-b)/(36-b)<=d-b:=⟨du (by omega) (by omega),nP _ (by omega)⟩;have ht1:Int.tmod (d-b) (36-b)=(d-b)%(36-b):=eE (by omega);have ht2:Int.tdiv (d-b) (36-b)=(d-b)/(36-b):=kp (by omega);have hdr:0<=b+(d-b)%(36-b)∧b+(d-b)%(36-b)<36:=by omega
  have hdg:=fun W=>yY _ W hdr;have hb2:=Jn hdr;have hsn:=dV acc (db (b+(d-b)%(36-b)));rw[hb2]at hsn;obtain⟨y,hy⟩:=az (On (b+(d-b)%(36-b)));rw[<-hy]at hdg hsn;have OE:=h_ hdg;clear hdg hb2 hy hlast hmore hdf hdr;have nO:=h_ hsn;clear hsn;have HAC:=h_ hacc;clear hacc hmo;have HG2:=h_ a4y;clear a4y;obtain⟨al,wF⟩:∃ al,al=acc.length:=⟨_,rfl⟩;have ho:=HO.out;rw[<-wF]at hal ho;have yn:=h_ ho;clear ho HO;have pp:=h_ wF;clear wF
  go_wp2_with (first
   |(go_at_call 241;refine(vj.out _).mono ?_;rintro e w2 ⟨rfl,rfl⟩)
   |(go_at_call 244;refine(OE.out _).mono ?_;rintro e w2 ⟨rfl,rfl⟩)
   |(at_builtin;(refine eO rfl (.tmp 25) (.tmp 33) _ rfl base 5 i8 (.int .u8 0) 1 underlying50 tT Ch mK n9 (by decide) _ _ _ (Lib.byteCells acc) rfl yn.out (.int .u8 y) rfl rfl (by omega) (by decide) (by omega) ?_);intro v2 w2 hown2 hw2 hb2;have fg:=h_ hown2;clear hown2;have HB2:=h_ hb2;clear hb2))
  go_roundw
  case rel =>
   refine⟨g,j+1,(d-b)/(36-b),acc++[db (b+(d-b)%(36-b))],by simp,by simp,?_,by rw[ae,<-pp.out];simp;omega,?_,by omega,by omega,HG2.out,by omega,by omega,HB.out.trans HB2.out⟩
   ·rw[ae,<-pp.out,nO.out]
    exact fg.out
   rw[aT];exact HAC.out
  case measure=>simp[intOf];omega

structure En where
 out:Bytes
 d:Int
 done:Int
 bias:Int
 first:Bool
def jD(sign c:Int)(s:En):En :=
 if c=sign then⟨s.out++nZ (if c<sign then s.d+1 else s.d) s.bias,0,s.done+1,nb (if c<sign then s.d+1 else s.d) (s.done+1) s.first,false⟩
 else⟨s.out,if c<sign then s.d+1 else s.d,s.done,s.bias,s.first⟩
def fb(sign:Int):List Int->En->En
 | [],s=>s
 |c::r,s=>fb sign r (jD sign c s)
theorem Ic{l:List Int}{k:Nat}(h:k<l.length)(sign:Int)(s:En):fb sign (l.drop k) s=fb sign (l.drop (k+1)) (jD sign l[k] s):=by
 rw[aq h];rfl
theorem zL(sign:Int):∀ (l m:List Int) (s:En),fb sign (l++m) s=fb sign m (fb sign l s)
 | [],_,_=>rfl
 |_::r,m,s=>zL sign r m (jD sign _ s)
theorem xA(sign:Int){l:List Int}{k:Nat}(h:k<l.length)(s:En):fb sign (l.take (k+1)) s=jD sign l[k] (fb sign (l.take k) s):=by
 rw[aI h,zL];rfl
def qp:Nat->List Int->Int->En->Bytes
 |0,_,_,s=>s.out
 |f+1,l,sign,s =>
  if s.done<l.length then
   let m:=ri l sign (-1)
   let t:=fb m l ⟨s.out,s.d+(m-sign)*(s.done+1),s.done,s.bias,s.first⟩
   qp f l (m+1) ⟨t.out,t.d+1,t.done,t.bias,t.first⟩
  else s.out
def jt(l:List Int):Bytes:=(l.filter (fun c=>decide (c<128))).map (fun c=>UInt8.ofNat c.toNat)
def hyp(b:Bytes):Bytes:=if b.length=0 then []else [45]
def qI(l:List Int):Bytes:=qp l.length l 128 ⟨jt l++hyp (jt l),0,(jt l).length,72,true⟩
def cnt(l:List Int)(sign:Int):Nat:=(l.filter (fun c=>decide (c<sign))).length
def eqs(l:List Int)(sign:Int):Nat:=(l.filter (fun c=>decide (c=sign))).length
theorem PR(l:List Int)(sign:Int):cnt l sign<=l.length:=eZ _ _
theorem vv(sign:Int):∀ l:List Int,cnt l (sign+1)=cnt l sign+eqs l sign
 | []=>rfl
 |c::r=>by
  have ih:=vv sign r;unfold cnt eqs at *;by_cases h1:c<sign
  ·rw[bk (by simp;omega),bk (by simp;omega),bj (by simp;omega)]
   simp only[ag];omega
  by_cases h2:c=sign
  ·rw[bk (by simp;omega),bj (by simp;omega),bk (by simp;omega)]
   simp only[ag];omega
  rw[bj (by simp;omega),bj (by simp;omega),bj (by simp;omega)];omega
theorem CU{m sign:Int}(hm:sign<=m):∀ {l:List Int},(∀c∈l,sign<=c->m<=c)->cnt l m=cnt l sign
 | [],_=>rfl
 |c::r,h=>by
  have ih:=CU hm (l:=r) (fun c hc=>h c (by simp[hc]));have hc:=h c (by simp);unfold cnt at *;by_cases h1:c<sign
  ·rw[bk (by simp;omega),bk (by simp;omega)]
   simp only[ag];omega
  have:=hc (by omega);rw[bj (by simp;omega),bj (by simp;omega)];exact ih
theorem JE{m:Int}{l:List Int}(h:m∈l):1<=eqs l m:=by
 unfold eqs;exact List.length_pos_of_mem (yu.mpr ⟨h,by simp⟩)
theorem cnt_lt{l:List Int}{sign:Int}(h:cnt l sign<l.length):∃ c∈l,sign<=c:=by
 by_cases hn:∃ c∈l,sign<=c
 ·exact hn
 exfalso
 have:l.filter (fun c=>decide (c<sign))=l:=Fp.mpr fun c hc=>by
  simp only[decide_eq_true_eq];by_cases h2:c<sign
  ·exact h2
  exact absurd ⟨c,hc,by omega⟩ hn
 unfold cnt at h;rw[this]at h;omega
theorem xa:∀ (l:List Int) (low f:Int),0<=low->(f<0∨low<=f) ->
  (ri l low f=f∧∀ c∈l,low<=c->0<=f∧f<=c)∨(ri l low f∈l∧low<=ri l low f∧(∀c∈l,low<=c->ri l low f<=c)∧(0<=f->ri l low f<=f))
 | [],low,f,_,_=>.inl ⟨rfl,by simp⟩
 |x::r,low,f,hl,hf=>by
  have e:ri (x::r) low f=ri r low (if low<=x∧(f<0∨x<f)then x else f):=rfl;by_cases h:low<=x∧(f<0∨x<f)
  ·rw[if_pos h]at e
   have ih:=xa r low x hl (.inr h.1);rw[e]
   right
   rcases ih with⟨h1,h2⟩|⟨h1,h2,h3,h4⟩
   ·refine⟨by rw[h1];simp,by rw[h1];exact h.1,fun c hc hlc=>?_,fun h0=>by rw[h1];omega⟩
    rw[h1];rcases aj.mp hc with rfl|hc
    ·exact lG _
    exact(h2 c hc hlc).2
   have h5:=h4 (by omega);refine⟨by simp[h1],h2,fun c hc hlc=>?_,fun h0=>by omega⟩;rcases aj.mp hc with rfl|hc
   ·exact h5
   exact h3 c hc hlc
  rw[if_neg h]at e;have ih:=xa r low f hl hf;rw[e];rcases ih with⟨h1,h2⟩|⟨h1,h2,h3,h4⟩
  ·left
   refine⟨h1,fun c hc hlc=>?_⟩;rcases aj.mp hc with rfl|hc
   ·omega
   exact h2 c hc hlc
  right
  refine⟨by simp[h1],h2,fun c hc hlc=>?_,h4⟩;rcases aj.mp hc with rfl|hc
  ·have:0<=f∧f<=c:=by omega
   have:=h4 this.1;omega
  exact h3 c hc hlc
theorem zo{l:List Int}{low:Int}(h0:0<=low)(h:∃ c∈l,low<=c):ri l low (-1)∈l∧low<=ri l low (-1)∧∀ c∈l,low<=c->ri l low (-1)<=c:=by
 rcases xa l low (-1) h0 (.inl (by omega))with⟨h1,h2⟩|⟨h1,h2,h3,_⟩
 ·obtain⟨c,hc,hl⟩:=h
  have:=(h2 c hc hl).1;omega
 exact⟨h1,h2,h3⟩
theorem rz:∀ (f:Nat) (e k:Int),0<=e->0<=k->0<=ku f e k∧ku f e k<=k+36*f+36
 |0,e,k,he,hk=>by
  have h1:0<=36*e/(e+38):=du (by omega) (by omega)
  have h2:36*e/(e+38)<=36:=by
   refine b2X (by omega) ?_;omega
  unfold ku;omega
 |f+1,e,k,he,hk=>by
  unfold ku
  split
  ·have:=rz f (e/35) (k+36) (by omega) (by omega)
   omega
  have h1:0<=36*e/(e+38):=du (by omega) (by omega)
  have h2:36*e/(e+38)<=36:=by
   refine b2X (by omega) ?_;omega
  omega
theorem xe{d n:Int}(first:Bool)(hd:0<=d)(hn:1<=n):0<=nb d n first∧nb d n first<=2400:=by
 unfold nb;have h0:0<=(if first then d/700 else d/2):=by split <;>omega
 have h1:0<=(if first then d/700 else d/2)/n:=du h0 (by omega);have:=rz 64 ((if first then d/700 else d/2)+(if first then d/700 else d/2)/n) 0 (by omega) (by omega);simp only;omega
theorem Dm:∀ (f j:Nat) (d bias:Int),1<=(nY f j d bias).length∧(nY f j d bias).length<=f+1
 |0,j,d,bias=>by simp[nY]
 |f+1,j,d,bias=>by
  unfold nY
  split
  ·simp
  have:=Dm f (j+1) ((d-bnd j bias)/(36-bnd j bias)) bias;simp only[ag];omega
theorem vJ(d bias:Int):1<=(nZ d bias).length∧(nZ d bias).length<=41:=Dm 40 0 d bias
theorem zM(sign:Int)(l:List Int)(s:En)(hd:0<=s.d)(hdn:0<=s.done)(hb:0<=s.bias∧s.bias<=2400) :
  ∀k,k<=l.length->0<=(fb sign (l.take k) s).d∧(fb sign (l.take k) s).d<=s.d+k∧(fb sign (l.take k) s).done=s.done+eqs (l.take k) sign ∧
   0<=(fb sign (l.take k) s).bias∧(fb sign (l.take k) s).bias<=2400∧(fb sign (l.take k) s).out.length<=s.out.length+41*eqs (l.take k) sign
 |0,_=>by
  rw[fZ];have:eqs [] sign=0:=rfl;show 0<=s.d∧_;refine⟨hd,?_,?_,hb.1,hb.2,?_⟩
  ·show s.d<=s.d+_;omega
  ·show s.done=_;rw[this];omega
  show s.out.length<=_;omega
 |k+1,hk=>by
  have hx:k<l.length:=by omega
  obtain⟨h1,h2,h3,h4,h5,h6⟩:=zM sign l s hd hdn hb k (by omega);rw[xA sign hx,aI hx]
  have he:eqs (l.take k++[l[k]]) sign=eqs (l.take k) sign+if l[k]=sign then 1 else 0:=by
   unfold eqs;rw[fX,ae];by_cases h:l[k]=sign
   ·rw[if_pos h,bk (by simp[h])];rfl
   rw[if_neg h,bj (by simp[h])];rfl
  rw[he];generalize fb sign (l.take k) s=t at *;generalize eqs (l.take k) sign=q at *;unfold jD;by_cases h:l[k]=sign
  ·rw[if_pos h,if_pos h]
   rw[if_neg (by omega)];have hn:=xe (d:=t.d) (n:=t.done+1) t.first h1 (by omega);have hl:=vJ t.d t.bias;refine⟨lG _,?_,?_,hn.1,hn.2,?_⟩
   ·show(0:Int)<=_;omega
   ·show t.done+1=_;omega
   show(t.out++nZ t.d t.bias).length<=_;rw[ae];omega
  rw[if_neg h,if_neg h];refine⟨?_,?_,?_,h4,h5,?_⟩
  ·dsimp only;split <;>omega
  ·dsimp only;split <;>omega
  ·show t.done=_;omega
  show t.out.length<=_;omega

theorem vO(f:Nat){l:List Int}{sign:Int}{s:En}(h:¬ s.done<l.length):qp f l sign s=s.out:=by
 cases f with
 |zero=>rfl
 |succ f=>unfold qp;rw[if_neg h]
theorem vP(f:Nat){l:List Int}{sign:Int}{o:Bytes}{d dn bi:Int}{fi:Bool}(h:dn<l.length) :
  qp (f+1) l sign ⟨o,d,dn,bi,fi⟩=qp f l (ri l sign (-1)+1) ⟨(fb (ri l sign (-1)) l ⟨o,d+(ri l sign (-1)-sign)*(dn+1),dn,bi,fi⟩).out,(fb (ri l sign (-1)) l ⟨o,d+(ri l sign (-1)-sign)*(dn+1),dn,bi,fi⟩).d+1,
   (fb (ri l sign (-1)) l ⟨o,d+(ri l sign (-1)-sign)*(dn+1),dn,bi,fi⟩).done,(fb (ri l sign (-1)) l ⟨o,d+(ri l sign (-1)-sign)*(dn+1),dn,bi,fi⟩).bias,(fb (ri l sign (-1)) l ⟨o,d+(ri l sign (-1)-sign)*(dn+1),dn,bi,fi⟩).first⟩:=by
 rw[qp,if_pos h]
theorem a0b(l:List Int)(m:Int):eqs l m<=l.length:=eZ _ _
theorem Pq{l:List Int}{k:Nat}(h:k<l.length):jt (l.take (k+1))=jt (l.take k)++if l[k]<128 then [UInt8.ofNat l[k].toNat]else []:=by
 rw[aI h];unfold jt;rw[fX,py];by_cases h2:l[k]<128
 ·rw[if_pos h2,bk (by simpa using h2)];rfl
 rw[if_neg h2,bj (by simpa using h2)];rfl
theorem uV(l:List Int):(jt l).length=cnt l 128:=by unfold jt cnt;rw[am]
theorem sG(l:List Int):(jt l).length<=l.length:=by rw[uV];exact PR l 128
theorem ry{c:Int}(h:0<=c∧c<256):b2 (UInt8.ofNat c.toNat)=c:=by
 unfold b2;rw[ga];omega
def encR(l:List Int):Bytes×Bool:=if 255<l.length∨¬ l.all sg=true then([],false)else(qI l,true)
theorem Bz{l:Bytes}{b:Bool}{t:Bytes×Bool}(h:t=(l,b)):Ending.returned (.tuple #[S l,.bool b])=.returned (.tuple #[S t.1,.bool t.2]):=by subst h;rfl
theorem O0{l:List Int}{k:Nat}(h:k<l.length)(ha:∀ c∈l.take k,sg c=true)(hx:sg l[k]=true):∀ c∈l.take (k+1),sg c=true:=by
 rw[aI h];intro c hc;rcases au.mp hc with h|h
 ·exact ha c h
 simp at h;subst h;exact hx
theorem Ql{l:List Int}{c:Int}(hc:c∈l)(h:sg c=false):encR l=([],false):=by
 unfold encR;rw[if_pos]
 right
 intro ha;have:=bo.mp ha c hc;rw[h]at this;exact absurd this (by simp)
theorem VJ{l:List Int}(hl:l.length<=255)(h:∀ c∈l,sg c=true):encR l=(qI l,true):=by
 unfold encR;rw[if_neg];rintro(h1|h1)
 ·omega
 exact h1 (bo.mpr h)
theorem row_one{sign c:Int}{o:Bytes}{d dn bi:Int}{fi:Bool}(h:c=sign):jD sign c ⟨o,d,dn,bi,fi⟩=⟨o++nZ d bi,0,dn+1,nb d (dn+1) fi,false⟩:=by
 unfold jD;simp only;rw[if_pos h,if_neg (by omega)]
theorem EB{sign c:Int}{o:Bytes}{d dn bi:Int}{fi:Bool}(h:c<sign):jD sign c ⟨o,d,dn,bi,fi⟩=⟨o,d+1,dn,bi,fi⟩:=by
 unfold jD;simp only;rw[if_neg (by omega),if_pos h]
theorem EC{sign c:Int}{o:Bytes}{d dn bi:Int}{fi:Bool}(h:sign<c):jD sign c ⟨o,d,dn,bi,fi⟩=⟨o,d,dn,bi,fi⟩:=by
 unfold jD;simp only;rw[if_neg (by omega),if_neg (by omega)]
theorem Km{a b:Int}(h:0<=a∧a<=1114112)(hb:1<=b∧b<=256):0<=a*b∧a*b<=285212672:=by
 refine⟨eD h.1 (by omega),?_⟩;have h1:a*b<=a*256:=Va hb.2 h.1;omega
theorem Dr(l:List Int)(av:Option Addr)(c:Nat)(w:World)(h:Sl w.heap.size w (.slice av l.length c) (ed l))(hl:l.length<=255) :
  bN prog 225 #[.slice av l.length c] w (.tuple #[S (encR l).1,.bool (encR l).2]):=by
 obtain⟨i8,tT,Ch,mK,n9⟩:=info_parts j8;have hat:=xJ h;have HAT:=h_ hat;clear hat;obtain⟨R,hR⟩:=az (encR l);rw[<-hR];have HR:=h_ hR;clear hR;obtain⟨L,hL⟩:=az (l.length);rw[<-hL]at h hl ⊢;have HS:=h_ h;clear h;have HL:=h_ hL;clear hL;go_enter func225,ntmps225
 go_wp2
 go_loopw [4,20] (fun ov iv wr=>∃ (k:Nat),k<=L∧iv=.int .i64 k∧wr.ownsRow w.heap.size 5 1 ov (jt (l.take k)).length (Lib.byteCells (jt (l.take k)))∧(∀x∈l.take k,sg x=true)∧w.heap.size<=wr.heap.size∧Below w.heap.size w wr) (fun _ i _=>L-(intOf i).toNat)
 case atStart=>exact⟨0,aK _,rfl,⟨by simp[jt,Lib.byteCells],.inl ⟨rfl,by simp[jt]⟩⟩,by simp,af _,Below.refl _ _⟩
 case round =>
  obtain⟨k,hk,rfl,hown,hall,hwz,hbel⟩:=hrel;have HO:=h_ hown;clear hown;have HA:=h_ hall;clear hall;have HB:=h_ hbel;clear hbel;by_cases hlt:k<L
  ·have hx:k<l.length:=by have:=HL.out;omega
   obtain⟨b,o,rfl,hb,h1⟩:=HAT.out k hx
   have hcell:wr.cell? ⟨b,o+k,none⟩=some (.int .i64 l[k]):=by
    rw[(HB.out).cell (p:=⟨b,o+k,none⟩) hb,h1]
   clear h1;have hmem:l[k]∈l:=bw hx;have hbs:=Pq hx;have has:=O0 hx HA.out;have hbl:(jt (l.take k)).length<=k:=ap (sG _) (List.length_take_le _ _);obtain⟨x,mZ⟩:=az (l[k]);rw[<-mZ]at hcell hmem hbs has;clear mZ;have BY:=h_ hbs;clear hbs;have HAS:=h_ has;clear has;have HM:=h_ hmem;clear hmem;have hsa:=fun W=>qS x W;cases hsg:sg x with
   |false =>
    rw[hsg]at hsa;have Og:=h_ hsa;clear hsa;have hres:=Ql HM.out hsg;have yp:=h_ hres;clear hres hsg
    go_wp2_with (first
     |(go_at_call 233;refine(Og.out _).mono ?_;rintro e w2 ⟨rfl,rfl⟩)
     |fail)
    go_ret2
    exact⟨Bz (l:=[]) (b:=false) (by rw[HR.out,yp.out]),HB.out⟩
   |true =>
    have hsr:=pe.mp hsg;rw[hsg]at hsa;have Og:=h_ hsa;clear hsa;have mX:=h_ hsg;clear hsg;have hcs:x<128∨128<=x:=by omega
    rcases hcs with hc|hc
    ·go_wp2_with (first
      |(go_at_call 233;refine(Og.out _).mono ?_;rintro e w2 ⟨rfl,rfl⟩)
      |(at_builtin;(refine eO rfl (.tmp 29) (.tmp 32) _ rfl w.heap.size 5 i8 (.int .u8 0) 1 underlying50 tT Ch mK n9 (by decide) _ _ _ (Lib.byteCells (jt (l.take k))) rfl HO.out (.int .u8 x) rfl rfl (by omega) (by decide) (by omega) ?_);intro v2 w2 hown2 hw2 hb2;have fg:=h_ hown2;clear hown2;have HB2:=h_ hb2;clear hb2))
     go_roundw
     case rel =>
      refine⟨k+1,hlt,by simp,?_,HAS.out mX.out,by omega,HB.out.trans HB2.out⟩;rw[BY.out,if_pos hc,ae,dV,ry (by omega)];exact fg.out
     case measure=>simp[intOf];omega
    go_wp2_with (first
     |(go_at_call 233;refine(Og.out _).mono ?_;rintro e w2 ⟨rfl,rfl⟩)
     |fail)
    go_roundw
    case rel =>
     refine⟨k+1,hlt,by simp,?_,HAS.out mX.out,by omega,HB.out⟩;rw[BY.out,if_neg (by omega),aG];exact HO.out
    case measure=>simp[intOf];omega
  obtain rfl:L=k:=by omega
  have e1:l.take L=l:=aP (by have:=HL.out;omega);have ho:=HO.out;have hall:=HA.out;rw[e1]at ho hall;have hre:=VJ (by have:=HL.out;omega) hall;have yp:=h_ hre;clear hre;have a7e:=h_ hall;clear hall;clear HO HA e1;obtain⟨ao,co,hv⟩:=dN (Sl.dM ho);rw[Lib.byteCells_length]at hv;subst hv;have hnl:=sG l;have hnc:=uV l;obtain⟨n,hn⟩:=az ((jt l).length);rw[<-hn]at ho hnl hnc ⊢;have b3P:n<=L:=by have:=HL.out;omega
  clear hnl;have HN:=h_ hn;clear hn;have HNC:=h_ hnc;clear hnc;have HO:=h_ ho;clear ho
  have a43:n=0->wr.ownsRow w.heap.size 5 1 (.slice ao n co) (jt l++hyp (jt l)).length (Lib.byteCells (jt l++hyp (jt l))):=by
   intro h0;have e:hyp (jt l)=[]:=by unfold hyp;rw[if_pos (by rw[<-HN.out];exact h0)]
   rw[e,aG,<-HN.out];exact HO.out
  have a44:0<n->∀ (v2:Value) (w2:World),w2.ownsRow w.heap.size 5 1 v2 (n+1) (Lib.byteCells (jt l)++[.int .u8 45])->w2.ownsRow w.heap.size 5 1 v2 (jt l++hyp (jt l)).length (Lib.byteCells (jt l++hyp (jt l))):=by
   intro h0 v2 w2 h2;have e:hyp (jt l)=[45]:=by unfold hyp;rw[if_neg (by rw[<-HN.out];omega)]
   rw[e,ae,dV,<-HN.out];exact h2
  have OR:=h_ a43;clear a43;have uo:=h_ a44;clear a44
  have hsl:(jt l++hyp (jt l)).length<=n+1:=by
   rw[ae,<-HN.out];unfold hyp
   split <;>simp
  obtain⟨O,hO⟩:=az (jt l++hyp (jt l))
  have hT:qI l=qp L l 128 ⟨O,0,n,72,true⟩:=by
   have e1:=HN.out;have e2:=HL.out;unfold qI;rw[<-e1,<-e2,<-hO]
  rw[<-hO]at hsl;rw[<-hO]at OR uo;clear hO;have HSL:=h_ hsl;clear hsl;obtain⟨T,Uo⟩:=az (qI l);rw[<-Uo]at hT yp;have HT:=h_ hT;clear hT Uo;have h0:n=0∨0<n:=by omega
  rcases h0 with rfl|h0
  all_goals
   go_wp2_with (at_builtin;(refine eO rfl (.tmp 39) (.tmp 40) _ rfl w.heap.size 5 i8 (.int .u8 0) 1 underlying50 tT Ch mK n9 (by decide) _ _ _ (Lib.byteCells (jt l)) rfl HO.out (.int .u8 45) rfl rfl (by omega) (by decide) (by omega) ?_);intro v2 w2 hown2 hw2 hb2;have fg:=h_ hown2;clear hown2;have HB2:=h_ hb2;clear hb2)
   go_loopw [4,7,8,9,10,11] (fun ov nv dv sv bv fv wq=>∃ (f:Nat) (o:Bytes) (d dn bi:Int) (fi:Bool) (sg:Int),nv=.int .i64 dn∧dv=.int .i64 d∧sv=.int .i64 sg∧bv=.int .i64 bi∧fv=.bool fi ∧
    wq.ownsRow w.heap.size 5 1 ov o.length (Lib.byteCells o)∧qp f l sg ⟨o,d,dn,bi,fi⟩=T∧dn=cnt l sg∧(L:Int)-dn<=f∧128<=sg∧sg<=1114112∧0<=d∧d<=(dn+1)*300000000∧0<=bi∧bi<=2400 ∧
    (o.length:Int)<=300+41*dn∧w.heap.size<=wq.heap.size∧Below w.heap.size w wq) (fun _ nv _ _ _ _ _=>L-(intOf nv).toNat)
   case atStart =>
    refine⟨L,O,0,_,72,true,128,rfl,rfl,rfl,rfl,rfl,?_,HT.out.symm,by have:=HNC.out;omega,by omega,by omega,by omega,by omega,by omega,by omega,by omega,by have:=HSL.out;omega,?_,?_⟩
    ·first|exact OR.out trivial|exact OR.out rfl|exact uo.out h0 _ _ fg.out
    ·omega
    first|exact HB.out|exact HB.out.trans HB2.out
   case round =>
    obtain⟨f,o,d,dn,bi,fi,sn,rfl,rfl,rfl,rfl,rfl,hown,hT,hdn,hf,b3V,b3W,hd0,hd1,a9c,a9d,hol,hwz,hbel⟩:=hrel;have kq:=h_ hown;clear hown;have HB3:=h_ hbel;clear hbel;by_cases hlt:dn<L
    ·cases f with
     |zero=>omega
     |succ g =>
      have hex:=cnt_lt (l:=l) (sign:=sn) (by have:=HL.out;omega);obtain⟨hm1,hm2,Wa⟩:=zo (by omega) hex;have hmore:=vP g (l:=l) (sign:=sn) (o:=o) (d:=d) (bi:=bi) (fi:=fi) (dn:=dn) (by have:=HL.out;omega);rw[hmore]at hT;have hla:=fun(W:World) (B:Nat) (v:Value) (h:Sl B W v (ed l))=>MQ l sn v W B h (by have:=HL.out;omega);obtain⟨m,hm⟩:=az (ri l sn (-1));rw[<-hm]at hm1 hm2 Wa hT hla;clear hm hmore hex;have hmr:=(pe.mp (a7e.out m hm1)).2.1;have heq1:=JE hm1;have hcn:=vv m l;rw[CU hm2 Wa,]at hcn;have b3v:0<=dn:=by omega
      have HDN:=h_ hdn;clear hdn;have Od:=h_ hla;clear hla;have hmul:=Km (a:=m-sn) (b:=dn+1) (by omega) (by omega);have hinv:=zM m l ⟨o,d+(m-sn)*(dn+1),dn,bi,fi⟩ (by show 0<=d+_;omega) (by show 0<=dn;omega) ⟨a9c,a9d⟩;have hdl:=hinv l.length (af _);rw[dx]at hdl;obtain⟨s0,hs0⟩:∃ s0:En,s0=⟨o,d+(m-sn)*(dn+1),dn,bi,fi⟩:=⟨_,rfl⟩;rw[<-hs0]at hinv hdl hT;have a4Z:s0.d=d+(m-sn)*(dn+1):=by rw[hs0]
      have a40:s0.done=dn:=by rw[hs0]
      have a41:s0.out=o:=by rw[hs0]
      rw[a4Z,a40,a41]at hinv hdl;have OF:=h_ hdl;clear hdl;have a7H:=h_ hinv;clear hinv;have UX:=h_ hT;clear hT;have HM3:=h_ Wa;clear Wa hm1;have a8a:=h_ ((HS.out).below HB3.out);have XN:=h_ hcn;clear hcn
      go_wp2_with (first
       |(go_at_call 236;refine(Od.out _ _ _ a8a.out).mono ?_;rintro e w2 ⟨rfl,rfl⟩)
       |fail)
      have HS0:=h_ hs0;clear hs0 a4Z a40 a41;have HZ3:=h_ hwz;clear hwz
      go_loopw [4,7,8,10,11,60] (fun ov nv dv bv fv iv wz=>∃ (k:Nat) (o':Bytes) (d' Fs Yf:Int) (Yn:Bool),k<=L∧iv=.int .i64 k∧nv=.int .i64 Fs∧dv=.int .i64 d'∧bv=.int .i64 Yf∧fv=.bool Yn ∧
       wz.ownsRow w.heap.size 5 1 ov o'.length (Lib.byteCells o')∧fb m (l.take k) s0=⟨o',d',Fs,Yf,Yn⟩∧w.heap.size<=wz.heap.size∧Below w.heap.size w wz) (fun _ _ _ _ _ iv _=>L-(intOf iv).toNat)
      case atStart=>exact⟨0,o,d+(m-sn)*(dn+1),dn,bi,fi,aK _,rfl,rfl,rfl,rfl,rfl,kq.out,HS0.out,HZ3.out,HB3.out⟩
      case round =>
       obtain⟨k,o',d',Fs,Yf,Yn,hk,rfl,rfl,rfl,rfl,rfl,hown,hrow,hwz,hbel⟩:=hrel;have rk:=h_ hown;clear hown;have eM:=h_ hbel;clear hbel;by_cases a0C:k<L
       ·have hx:k<l.length:=by have:=HL.out;omega
        obtain⟨ba,oa,rfl,hb,h1⟩:=HAT.out k hx
        have hcell:wr.cell? ⟨ba,oa+k,none⟩=some (.int .i64 l[k]):=by
         rw[(eM.out).cell (p:=⟨ba,oa+k,none⟩) hb,h1]
        clear h1;have hiv:=a7H.out k (by omega);rw[hrow]at hiv;have hel:=a0b (l.take k) m;have hkl:(l.take k).length<=k:=List.length_take_le _ _;obtain⟨hi1,hi2,hi3,hi4,hi5,hi6⟩:=hiv;simp only at hi1 hi2 hi3 hi4 hi5 hi6;have Wg:=xA m hx s0;rw[hrow]at Wg;obtain⟨x,mZ⟩:=az (l[k]);rw[<-mZ]at hcell Wg;clear mZ;generalize eqs (l.take k) m=q at *;have b3R:o'.length<=102400000:=by omega
        have hdb:d' < 1099511627776:=by omega
        have b3u:0<=Fs∧Fs<=600:=by omega
        clear hi2 hi3 hi6 hel hkl hrow;have nO:=h_ Wg;clear Wg;have hcs:x<m∨x=m∨m<x:=by omega
        rcases hcs with hc|hc|hc
        ·go_wp2
         go_roundw
         case rel=>exact⟨k+1,o',d'+1,Fs,Yf,Yn,a0C,by simp,rfl,rfl,rfl,rfl,rk.out,by rw[nO.out,EB hc],hwz,eM.out⟩
         case measure=>simp[intOf];omega
        ·subst hc
         go_wp2_with (first
          |(go_at_call 237;refine(N6 _ o' d' Yf w.heap.size _ rk.out (by omega) hwz ⟨hi1,hdb⟩ (by omega)).mono ?_;rintro e w5 ⟨v5,rfl,hown5,hz5,hb5⟩;have yk:=h_ hown5;clear hown5;have gH:=h_ hb5;clear hb5;have HZ5:=h_ hz5;clear hz5)
          |(go_at_call 235;refine(nA d' (Fs+1) Yn _ (by omega) (by omega)).mono ?_;rintro e w6 ⟨rfl,rfl⟩)
          |fail)
         go_roundw
         case rel=>exact⟨k+1,o'++nZ d' Yf,0,Fs+1,nb d' (Fs+1) Yn,false,a0C,by simp,rfl,rfl,rfl,rfl,yk.out,by rw[nO.out,row_one rfl],by have:=HZ5.out;omega,eM.out.trans gH.out⟩
         case measure=>simp[intOf];omega
        go_wp2
        go_roundw
        case rel=>exact⟨k+1,o',d',Fs,Yf,Yn,a0C,by simp,rfl,rfl,rfl,rfl,rk.out,by rw[nO.out,EC hc],hwz,eM.out⟩
        case measure=>simp[intOf];omega
       obtain rfl:L=k:=by omega
       rw[aP (by have:=HL.out;omega)]at hrow;have hdl:=OF.out;have hT:=UX.out;rw[hrow]at hdl hT;obtain⟨hi1,hi2,hi3,hi4,hi5,hi6⟩:=hdl;simp only at hi1 hi2 hi3 hi4 hi5 hi6 hT;have hLl:=HL.out;rw[<-hLl]at hi2;have a9h:=XN.out;have a9i:=HDN.out;have Zq:=h_ hT;clear hT;clear hrow hLl;have hnew:Fs=cnt l (m+1):=by omega
       have hdd:d'+1<=(Fs+1)*300000000:=by omega
       have hoo:(o'.length:Int)<=300+41*Fs:=by omega
       have b3w:dn<Fs:=by omega
       have b3x:Fs<=255:=by have:=PR l (m+1);have:=HL.out;omega
       have a7T:=h_ hnew;clear hnew hi2 hi3 hi6 a9h heq1 hmul a9i;have HDD:=h_ hdd;have HOO:=h_ hoo;clear hoo
       go_wp2
       go_roundw
       case rel=>exact⟨g,o',d'+1,Fs,Yf,Yn,m+1,rfl,rfl,rfl,rfl,rfl,rk.out,Zq.out,a7T.out,by omega,by omega,by omega,by omega,HDD.out,hi4,hi5,HOO.out,hwz,eM.out⟩
       case measure=>simp[intOf];omega
    rw[vO f (by show ¬dn<_;have:=HL.out;omega)]at hT;have hT':o=T:=hT;clear hT;have kc:=ki underlying50 underlying5 underlying9 kq.out;rw[hT']at kc;have HTO:=h_ hT';clear hT';have KC:=h_ kc;clear kc;have kc:=KC.out
    go_wp2
    go_ret2
    exact⟨Bz (by rw[HR.out,yp.out]),HB3.out⟩
theorem Gp(l:List Int)(v:Value)(w:World)(h:Sl w.heap.size w v (ed l)) :
  bN prog 225 #[v] w (.tuple #[S (encR l).1,.bool (encR l).2]):=by
 obtain⟨av,c,rfl⟩:=dN h;rw[show(ed l).length=l.length by simp]at h ⊢;by_cases hl:l.length<=255
 ·exact Dr l av c w h hl
 have hr:encR l=([],false):=by unfold encR;rw[if_pos (.inl (by omega))]
 obtain⟨R,hR⟩:=az (encR l);rw[<-hR]at hr ⊢;have HR:=h_ hr;clear hr hR h;generalize l.length=L at *;go_enter func225,ntmps225
 go_wp2
 go_ret2
 exact⟨Bz (l:=[]) (b:=false) HR.out,Below.refl _ _⟩

theorem Rv(c lo hi:Int)(w:World):iz prog 228 #[.int .i64 c,.int .i64 lo,.int .i64 hi] w (.bool (decide (lo<=c∧c<=hi))):=by
 have h:c<lo∨(lo<=c∧hi<c)∨(lo<=c∧c<=hi):=by omega
 rcases h with h|⟨h,h2⟩|⟨h,h2⟩
 all_goals
  go_enter func228,ntmps228
  go_wp2
  go_ret;exact⟨dX (by simp;omega),rfl⟩
theorem iu(c lo hi:Int)(w:World)(h:lo<=c∧c<=hi):iz prog 228 #[.int .i64 c,.int .i64 lo,.int .i64 hi] w (.bool true) :=
 (Rv c lo hi w).mono fun e w' h'=>⟨by rw[h'.1,decide_eq_true h],h'.2⟩
theorem iq(c lo hi:Int)(w:World)(h:¬ (lo<=c∧c<=hi)):iz prog 228 #[.int .i64 c,.int .i64 lo,.int .i64 hi] w (.bool false) :=
 (Rv c lo hi w).mono fun e w' h'=>⟨by rw[h'.1,decide_eq_false h],h'.2⟩
def lF(c:Int):List Int :=
 if(0x41<=c∧c<=0x5a)∨(0xc0<=c∧c<=0xd6)∨(0xd8<=c∧c<=0xde)∨(0x391<=c∧c<=0x3a1)∨(0x3a3<=c∧c<=0x3a9)∨(0x410<=c∧c<=0x42f)then [c+0x20]
 else if(0x100<=c∧c<=0x12e)∧c%2=0 then [c+1]
 else if c=0x130 then [0x69,0x307]
 else if 0x400<=c∧c<=0x40f then [c+0x50]
 else if c=0x2024∨c=0x3002∨c=0xff61 then [0x2e]
 else if c=0x2100 then [0x61,0x2f,0x63]
 else if c=0x2105 then [0x63,0x2f,0x6f]
 else if 0x2460<=c∧c<=0x2468 then [c-0x2460+0x31]
 else if 0xff21<=c∧c<=0xff3a then [c-0xfee0+0x20]
 else if 0xff01<=c∧c<=0xff5e then [c-0xfee0]
 else if 0x1d7ce<=c∧c<=0x1d7ff then [0x30+(c-0x1d7ce)%10]
 else []
theorem xS(c:Int) :
  (((0x41<=c∧c<=0x5a)∨(0xc0<=c∧c<=0xd6)∨(0xd8<=c∧c<=0xde)∨(0x391<=c∧c<=0x3a1)∨(0x3a3<=c∧c<=0x3a9)∨(0x410<=c∧c<=0x42f))∧lF c=[c+0x20]) ∨
  ((0x100<=c∧c<=0x12e)∧c%2=0∧lF c=[c+1]) ∨
  ((0x100<=c∧c<=0x12e)∧c%2=1∧lF c=[]) ∨
  (c=0x130∧lF c=[0x69,0x307]) ∨
  ((0x400<=c∧c<=0x40f)∧lF c=[c+0x50]) ∨
  ((c=0x2024∨c=0x3002∨c=0xff61)∧lF c=[0x2e]) ∨
  (c=0x2100∧lF c=[0x61,0x2f,0x63]) ∨
  (c=0x2105∧lF c=[0x63,0x2f,0x6f]) ∨
  ((0x2460<=c∧c<=0x2468)∧lF c=[c-0x2460+0x31]) ∨
  ((0xff21<=c∧c<=0xff3a)∧lF c=[c-0xfee0+0x20]) ∨
  (((0xff01<=c∧c<=0xff20)∨(0xff3b<=c∧c<=0xff5e))∧lF c=[c-0xfee0]) ∨
  ((0x1d7ce<=c∧c<=0x1d7ff)∧lF c=[0x30+(c-0x1d7ce)%10]) ∨
  (¬((0x41<=c∧c<=0x5a)∨(0xc0<=c∧c<=0xd6)∨(0xd8<=c∧c<=0xde)∨(0x391<=c∧c<=0x3a1)∨(0x3a3<=c∧c<=0x3a9)∨(0x410<=c∧c<=0x42f)∨(0x100<=c∧c<=0x12e)∨c=0x130∨(0x400<=c∧c<=0x40f)∨c=0x2024∨c=0x3002∨c=0xff61∨c=0x2100∨c=0x2105∨(0x2460<=c∧c<=0x2468)∨(0xff01<=c∧c<=0xff5e)∨(0x1d7ce<=c∧c<=0x1d7ff))∧lF c=[]):=by
 unfold lF
 split
 ·exact .inl ⟨by assumption,rfl⟩
 split
 ·exact .inr (.inl ⟨by omega,by omega,rfl⟩)
 by_cases hodd:0x100<=c∧c<=0x12e
 ·refine .inr (.inr (.inl ⟨hodd,by omega,?_⟩))
  iterate 9 rw[if_neg (by omega)]
 split
 ·exact .inr (.inr (.inr (.inl ⟨by assumption,rfl⟩)))
 split
 ·exact .inr (.inr (.inr (.inr (.inl ⟨by assumption,rfl⟩))))
 split
 ·exact .inr (.inr (.inr (.inr (.inr (.inl ⟨by assumption,rfl⟩)))))
 split
 ·exact .inr (.inr (.inr (.inr (.inr (.inr (.inl ⟨by assumption,rfl⟩))))))
 split
 ·exact .inr (.inr (.inr (.inr (.inr (.inr (.inr (.inl ⟨by assumption,rfl⟩)))))))
 split
 ·exact .inr (.inr (.inr (.inr (.inr (.inr (.inr (.inr (.inl ⟨by assumption,rfl⟩))))))))
 split
 ·exact .inr (.inr (.inr (.inr (.inr (.inr (.inr (.inr (.inr (.inl ⟨by assumption,rfl⟩)))))))))
 split
 ·exact .inr (.inr (.inr (.inr (.inr (.inr (.inr (.inr (.inr (.inr (.inl ⟨by omega,rfl⟩))))))))))
 split
 ·exact .inr (.inr (.inr (.inr (.inr (.inr (.inr (.inr (.inr (.inr (.inr (.inl ⟨by assumption,rfl⟩)))))))))))
 exact .inr (.inr (.inr (.inr (.inr (.inr (.inr (.inr (.inr (.inr (.inr (.inr ⟨by omega,rfl⟩)))))))))))

def dF(x:UInt8):UInt8:=if 65<=b2 x∧b2 x<=90 then UInt8.ofNat (b2 x+32).toNat else x
theorem a3z{c:Int}(h:0<=c∧c<256):b2 (UInt8.ofNat c.toNat)=c:=by
 unfold b2;rw[ga];omega
theorem js(x:UInt8):0<=b2 x∧b2 x<256:=by unfold b2;have:=x.toNat_lt;omega
theorem G9{x:UInt8}(h:65<=b2 x∧b2 x<=90):b2 (dF x)=b2 x+32:=by unfold dF;rw[if_pos h,a3z (by omega)]
theorem Ha{x:UInt8}(h:¬ (65<=b2 x∧b2 x<=90)):dF x=x:=by unfold dF;rw[if_neg h]
def Mk(w:World)(e g:Nat)(l:Bytes):Prop:=∃ cs:Array Value,w.heap[g]? = some (.cells cs e (cs.size,cs.size+1))∧l.length<=cs.size∧cs.toList.take l.length=Lib.byteCells l
theorem Mk.at{w:World}{e g:Nat}{l:Bytes}(h:Mk w e g l)(k:Nat)(hk:k<l.length):w.cell? ⟨g,k,none⟩=some (.int .u8 (b2 l[k])):=by
 obtain⟨cs,h1,h2,h3⟩:=h;rw[cell_of_row w g k cs e _ h1];have h4:=congrArg (fun x:List Value=>x[k]?) h3;simp only[lE,if_pos hk]at h4;rw[<-Array.getElem?_toList,h4];simp[Lib.byteCells,b2,hk]
theorem Mk.free{w:World}{e g:Nat}{l:Bytes}(h:Mk w e g l)(k:Nat)(hk:k<l.length):w.frozen? ⟨g,k,none⟩=false:=by
 obtain⟨cs,h1,h2,h3⟩:=h;simp only[World.frozen?,h1];simp;omega
theorem Mk.set{w:World}{e g:Nat}{l:Bytes}(h:Mk w e g l)(k:Nat)(y:UInt8):Mk (w.setCell ⟨g,k,none⟩ (.int .u8 (b2 y))) e g (l.set k y):=by
 obtain⟨cs,h1,h2,h3⟩:=h;refine⟨cs.setIfInBounds k (.int .u8 (b2 y)),?_,by simpa using h2,?_⟩
 ·have hlt:g<w.heap.size:=by
   by_cases hlt:g<w.heap.size
   ·exact hlt
   rw[dm (by omega)]at h1;cases h1
  have h1':w.heap[g]=.cells cs e (cs.size,cs.size+1):=by simpa[Array.getElem?_eq_getElem hlt]using h1
  show(w.heap.modify g _)[g]? = _;rw[df (by simpa using hlt),Array.getElem_modify_self,h1'];simp
 rw[Array.toList_setIfInBounds,List.length_set,List.take_set,h3];simp[Lib.byteCells,b2,List.map_set]
theorem Mk.new(w:World)(e:Nat)(s:ByteArray)(c:Nat):Mk (w.drew.alloc (.cells (bytesRow s c) e ((bytesRow s c).size,(bytesRow s c).size+1))) e w.heap.size (ls s):=by
 refine⟨bytesRow s c,heap_alloc_new w.drew _,?_,?_⟩
 ·rw[fx];unfold bytesRow;simp
 unfold bytesRow ls;have e:(s.data.map (fun b=>Value.int .u8 b.toNat)).toList=Lib.byteCells s.data.toList:=by simp[Lib.byteCells]
 have e2:(Lib.byteCells s.data.toList).length=s.data.toList.length:=Lib.byteCells_length _;rw[pZ,e,<-e2,jo];rfl
theorem Mk.str{P:Program}{src dst e:TypeId}(hs:P.underlying src=some (.slice e))(he:P.underlying e=some (.int .u8))(hd:P.underlying dst=some .string){w:World}{g:Nat}{l:Bytes}(h:Mk w e g l)(n c:Nat)(hn:n=l.length) :
  (convert src dst (.slice (some ⟨g,0,none⟩) n c)).run P w=.ok (.string (bs l)) w:=by
 subst hn;refine run_convert_bytes_back (P:=P) w src dst e ⟨g,0,none⟩ c l hs he hd (fun j hj=>?_);rw[addr_add,bC,h.at j hj];rfl
theorem Eg{l:Bytes}{k:Nat}(h:k<l.length):((l.take k).map dF++l.drop k).set k (dF l[k])=(l.take (k+1)).map dF++l.drop (k+1):=by
 have hl:((l.take k).map dF).length=k:=by rw[am,aE];omega
 rw[aI h,py,aq h,b20 _ _ (by omega),hl,gR,aT];rfl
theorem Sh{l:Bytes}{k:Nat}(h:k<l.length)(h':k<((l.take k).map dF++l.drop k).length):((l.take k).map dF++l.drop k)[k]=l[k]:=by
 have hl:((l.take k).map dF).length=k:=by rw[am,aE];omega
 rw[a3k (by omega)];simp[List.length_take,Nat.min_eq_left (by omega:k<=l.length)]
theorem Wy(l:Bytes)(k:Nat):((l.take k).map dF++l.drop k).length=l.length:=by rw[ae,am,aE,ah];omega
theorem sX(l:Bytes)(w:World)(hl:l.length<=maxLen):Calls prog 70 #[.string (bs l)] w fun e w'=>Vd w (l.map dF) e w':=by
 unfold maxLen at hl;obtain⟨s,hs⟩:=az (bs l);have hsz:s.size=l.length:=by rw[hs,aM]
 obtain⟨L,hL⟩:=az (l.length);rw[<-hL]at hl hsz;rw[<-hs];have hmk:=Mk.new w 5 s (grownCap w s.size 0 5);rw[hs,dR]at hmk;rw[<-hs]at hmk;have kc:=run_bytes_of_string (P:=prog) w 9 50 5 s underlying9 underlying50 underlying5;obtain⟨W,hW⟩:=az (w.drew.alloc (.cells (bytesRow s (grownCap w s.size 0 5)) 5 ((bytesRow s (grownCap w s.size 0 5)).size,(bytesRow s (grownCap w s.size 0 5)).size+1)));have hbl:Below w.heap.size w W:=by rw[hW];exact((Below.refl _ _).drew).alloc (af _) _
 rw[<-hW]at kc hmk;clear hW;obtain⟨C,hC⟩:=az (grownCap w s.size 0 5);rw[<-hC]at kc;clear hC;rw[hsz]at kc;obtain⟨g,hg⟩:=az (w.heap.size);rw[<-hg]at kc hmk;have hgb:w.heap.size<=g:=by omega
 clear hg;have HL:=h_ hL;clear hL;have HMK:=h_ hmk;clear hmk;have mW:=h_ hbl;clear hbl;clear hs hsz;go_enter func70,ntmps70
 go_wp2_with fail
 go_loopw [10] (fun iv wr=>∃ k:Nat,k<=L∧iv=.int .i64 k∧Mk wr 5 g ((l.take k).map dF++l.drop k)∧Below w.heap.size w wr) (fun i _=>L-(intOf i).toNat)
 case atStart=>exact⟨0,by omega,by simp,by simpa using HMK.out,mW.out⟩
 case round =>
  obtain⟨k,hk,rfl,hmk,hbl⟩:=hrel;by_cases hlt:k<L
  ·have hx:k<l.length:=by have:=HL.out;omega
   have hx2:k<((l.take k).map dF++l.drop k).length:=by rw[Wy];exact hx
   have hcell:=hmk.at k hx2;rw[Sh hx hx2]at hcell;have hfr:=hmk.free k hx2;have hset:=hmk.set k (dF l[k]);rw[Eg hx]at hset;have hx8:=js l[k]
   have hcs:(b2 l[k]<65∧dF l[k]=l[k])∨(65<=b2 l[k]∧90<b2 l[k]∧dF l[k]=l[k])∨(65<=b2 l[k]∧b2 l[k]<=90∧b2 (dF l[k])=b2 l[k]+32):=by
    by_cases h1:65<=b2 l[k]∧b2 l[k]<=90
    ·exact .inr (.inr ⟨h1.1,h1.2,G9 h1⟩)
    have:=Ha h1;by_cases h2:b2 l[k]<65
    ·exact .inl ⟨h2,this⟩
    exact .inr (.inl ⟨by omega,by omega,this⟩)
   have hsame:dF l[k]=l[k]->Mk wr 5 g ((l.take (k+1)).map dF++l.drop (k+1)):=by
    intro h;rw[<-Eg hx,h]
    have:((l.take k).map dF++l.drop k).set k l[k]=(l.take k).map dF++l.drop k:=by
     conv=>lhs;rw[<-Sh hx hx2]
     exact List.set_getElem_self hx2
    rw[this];exact hmk
   obtain⟨x,mZ⟩:=az (b2 l[k]);obtain⟨y,hy⟩:=az (dF l[k]);rw[<-mZ]at hcell hcs hx8;rw[<-hy]at hset hcs hsame;obtain⟨eq,heq⟩:∃ eq:Prop,eq=(y=l[k]):=⟨_,rfl⟩;rw[<-heq]at hcs hsame;clear mZ hy heq hx2;have Zn:=h_ hset;clear hset;have X1:=h_ hsame;clear hsame;have lC:=h_ hbl;clear hbl;clear hmk;rcases hcs with⟨h1,h2⟩|⟨h1,h2,h3⟩|⟨h1,h2,h3⟩
   ·have HS:=h_ h2;clear h2
    go_wp2_with fail
    go_roundw
    case rel=>exact⟨k+1,by omega,by simp,X1.out HS.out,lC.out⟩
    case measure=>simp[intOf];omega
   ·have HS:=h_ h3;clear h3
    go_wp2_with fail
    go_roundw
    case rel=>exact⟨k+1,by omega,by simp,X1.out HS.out,lC.out⟩
    case measure=>simp[intOf];omega
   have HS:=h_ h3;clear h3
   go_wp2_with fail
   go_roundw
   case rel=>exact⟨k+1,by omega,by simp,by have:=Zn.out;rw[HS.out,show x+32=x-65+97 by omega]at this;exact this,lC.out.setCell hgb _⟩
   case measure=>simp[intOf];omega
  obtain rfl:k=L:=by omega
  rw[aP (by have:=HL.out;omega),dK (by have:=HL.out;omega),aG]at hmk;have kc2:=hmk.str (P:=prog) underlying50 underlying5 underlying9 k C (by rw[am,HL.out]);have lC:=h_ hbl;clear hbl hmk
  go_wp2_with fail
  go_ret;exact⟨rfl,lC.out⟩
end Go.Proofs.YtmndlfglgcioeaaGreatDoor
