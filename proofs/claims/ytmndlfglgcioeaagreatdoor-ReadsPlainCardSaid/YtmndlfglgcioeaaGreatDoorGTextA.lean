/- TextA TextB Slic PunA DigA PunB PunC PunD PunE PunG PunH IdnA Low: joined. -/
import Derived.Test.YtmndlfglgcioeaaGreatDoorProg
import Derived.Test.YtmndlfglgcioeaaGreatDoorGBase
import Derived.Laws.IdiomStrings
set_option maxHeartbeats 40000000
namespace Go.Proofs.YtmndlfglgcioeaaGreatDoor
open Tryz
open Go.RowKit
set_option maxRecDepth 10000
def bX (c:Int):Int×Int×Int :=
 if 0xc2<=c∧c<=0xdf then(0x80,0xbf,2)
 else if c=0xe0 then(0xa0,0xbf,3)
 else if c=0xed then(0x80,0x9f,3)
 else if 0xe1<=c∧c<=0xef then(0x80,0xbf,3)
 else if c=0xf0 then(0x90,0xbf,4)
 else if 0xf1<=c∧c<=0xf3 then(0x80,0xbf,4)
 else if c=0xf4 then(0x80,0x8f,4)
 else(0,0,1)
theorem Bz (c:Int) (w:World) :
  Calls prog 85 #[.int .u8 c] w fun e w'=>e=.returned (.tuple #[.int .u8 (bX c).1,.int .u8 (bX c).2.1,.int .i64 (bX c).2.2])∧w=w':=by
 go_enter func85,ntmps85
 go_wp2
 all_goals go_ret3
 all_goals refine⟨QN ?_,rfl⟩
 all_goals try simp only[beq_iff_eq,beq_eq_false_iff_ne]at *
 all_goals unfold bX
 all_goals repeat (first|rw[if_pos (by omega)]|rw[if_neg (by omega)])
def dk (c:Int):Int×Int×Int :=
 if c<0x80 then(1,0,0)
 else if c<0xc2∨c>0xf4 then(0,0,0)
 else if c<0xe0 then(2,0x80,0xbf)
 else if c=0xe0 then(3,0xa0,0xbf)
 else if c=0xed then(3,0x80,0x9f)
 else if c=0xf0 then(4,0x90,0xbf)
 else if c=0xf4 then(4,0x80,0x8f)
 else if c<0xf0 then(3,0x80,0xbf)
 else(4,0x80,0xbf)
def enc (c:Int):Bytes:=ls (Utf8.encode c)
theorem sQ {c:Int} (h:Utf8.valid c=false):Utf8.encode c=bs [0xef,0xbf,0xbd]:=by
 unfold Utf8.encode
 rw[h]
 have e:(if false=true then c.toNat else Utf8.runeError)=65533:=rfl
 simp only[e]
 rfl
theorem rq {c:Int} (h:c<0∨0x10ffff<c∨(0xd800<=c∧c<=0xdfff)):Utf8.valid c=false:=by
 unfold Utf8.valid
 rw[yy]
 simp only[Bool.and_eq_false_iff,decide_eq_false_iff_not]
 omega
theorem NF {c:Int} (h:c<0∨0x10ffff<c∨(0xd800<=c∧c<=0xdfff)):Ending.returned (.string ⟨#[239,191,189]⟩)=.returned (S (enc c)):=by
 unfold S enc
 rw[nJ,sQ (rq h)]
 rfl
theorem QU {c:Int}:Ending.returned (.string (Utf8.encode c))=.returned (S (enc c)):=by
 unfold S enc
 rw[nJ]
theorem eU (c:Int) (w:World) :
  Calls prog 45 #[.int .i64 c] w fun e w'=>e=.returned (S (enc c))∧w=w':=by
 go_enter func45,ntmps45
 go_wp2
 all_goals go_ret
 all_goals refine⟨?_,rfl⟩
 all_goals first|exact QU|exact NF (by omega)

theorem sN {c:Int} (h1:0<=c) (h2:c<0x80):enc c=[UInt8.ofNat c.toNat]:=by
 have hv:Utf8.valid c=true:=by unfold Utf8.valid;simp;omega
 unfold enc Utf8.encode
 simp only[hv,if_true]
 rw[if_pos (by omega)]
 rfl
theorem zw {c:Int} (h1:0x80<=c) (h2:c<0x800):enc c=[UInt8.ofNat (192+c/64).toNat,UInt8.ofNat (128+c%64).toNat]:=by
 have hv:Utf8.valid c=true:=by unfold Utf8.valid;simp;omega
 unfold enc Utf8.encode
 simp only[hv,if_true]
 rw[if_neg (by omega),if_pos (by omega),show(192+c/64).toNat=192+c.toNat/64 by omega,show(128+c%64).toNat=128+c.toNat%64 by omega]
 rfl
theorem sO {c:Int} (h1:0x800<=c) (h2:c<0x10000) (h3:c<0xd800∨0xdfff<c) :
  enc c=[UInt8.ofNat (224+c/4096).toNat,UInt8.ofNat (128+c/64%64).toNat,UInt8.ofNat (128+c%64).toNat]:=by
 have hv:Utf8.valid c=true:=by unfold Utf8.valid;simp;omega
 unfold enc Utf8.encode
 simp only[hv,if_true]
 rw[if_neg (by omega),if_neg (by omega),if_pos (by omega),show(224+c/4096).toNat=224+c.toNat/4096 by omega,show(128+c/64%64).toNat=128+c.toNat/64%64 by omega,show(128+c%64).toNat=128+c.toNat%64 by omega]
 rfl
theorem zx {c:Int} (h1:0x10000<=c) (h2:c<=0x10ffff) :
  enc c=[UInt8.ofNat (240+c/262144).toNat,UInt8.ofNat (128+c/4096%64).toNat,UInt8.ofNat (128+c/64%64).toNat,UInt8.ofNat (128+c%64).toNat]:=by
 have hv:Utf8.valid c=true:=by unfold Utf8.valid;simp;omega
 unfold enc Utf8.encode
 simp only[hv,if_true]
 rw[if_neg (by omega),if_neg (by omega),if_neg (by omega),show(240+c/262144).toNat=240+c.toNat/262144 by omega,show(128+c/4096%64).toNat=128+c.toNat/4096%64 by omega,show(128+c/64%64).toNat=128+c.toNat/64%64 by omega,show(128+c%64).toNat=128+c.toNat%64 by omega]
 rfl
theorem xC {c:Int} (h:c<0∨0x10ffff<c∨(0xd800<=c∧c<=0xdfff)):enc c=[0xef,0xbf,0xbd]:=by
 unfold enc
 rw[sQ (rq h),du]

theorem zZ:(prog.info? 3).map (fun i=>(i.zero,i.size,i.bytes))=some (some (.int .i64 0),1,8):=by kernel_rfl
theorem ly:(prog.info? 5).map (fun i=>(i.zero,i.size,i.bytes))=some (some (.int .u8 0),1,1):=by kernel_rfl
theorem uf {B:Nat} {w:World} {av:Option Addr} {n c:Nat} {l:List Int} (h:Sl B w (.slice av n c) (dw l)) (k:Nat) (hk:k<l.length) :
  ∃b o,av=some ⟨b,o,none⟩∧b<B∧w.cell? ⟨b,o+k,none⟩=some (.int .i64 l[k]):=by
 obtain⟨c',_,_,h⟩:=h
 rcases h with⟨hn,a,e⟩|⟨b,o,hb,e,hat⟩
 ·obtain rfl:l=[]:=by simpa using hn
  simp at hk
 injection e with e1 _ _
 refine⟨b,o,e1,hb,?_⟩
 have:=hat k (by simpa using hk)
 simpa using this
theorem dt {B:Nat} {w:World} {v:Value} {xs:List Value} (h:Sl B w v xs):∃ a c,v=.slice a xs.length c:=by
 obtain⟨c,_,_,h⟩:=h
 rcases h with⟨hn,a,rfl⟩|⟨b,o,_,rfl,_⟩
 ·subst hn;exact⟨a,c,rfl⟩
 exact⟨_,c,rfl⟩
theorem Ii {B:Nat} {w:World} {av:Option Addr} {n c:Nat} {l:Bytes} (h:Sl B w (.slice av n c) (Lib.byteCells l)) (k:Nat) (hk:k<l.length) :
  ∃b o,av=some ⟨b,o,none⟩∧b<B∧w.cell? ⟨b,o+k,none⟩=some (.int .u8 (b2 l[k])):=by
 obtain⟨c',_,_,h⟩:=h
 rcases h with⟨hn,a,e⟩|⟨b,o,hb,e,hat⟩
 ·obtain rfl:l=[]:=by simpa[Lib.byteCells]using hn
  simp at hk
 injection e with e1 _ _
 refine⟨b,o,e1,hb,?_⟩
 have:=hat k (by simpa[Lib.byteCells]using hk)
 simpa[Lib.byteCells,b2]using this
theorem gO (l m:Bytes):bs l++bs m=bs (l++m):=by
 apply MJ
 simp[ls,bs]
theorem bV {s:ByteArray} {X:Bytes} (h:s=bs X) {k:Nat} (hk:k<s.size) (hx:k<X.length):((s[k]'hk).toNat:Int)=b2 X[k]:=by
 subst h
 rfl
theorem fO (l:Bytes) (y:UInt8):Lib.byteCells (l++[y])=Lib.byteCells l++[.int .u8 (b2 y)]:=by simp[Lib.byteCells,b2]
theorem bM (l:Bytes) (a b:Nat):(bs l).extract a b=bs ((l.drop a).take (b-a)):=by
 apply MJ
 rw[du]
 unfold ls bs
 simp[ByteArray.data_extract,List.extract_eq_take_drop]

def sg (c:Int):Bool:=decide (0<=c∧c<=0x10ffff∧(c<0xd800∨0xdfff<c))
theorem qH {c:Int}:sg c=true ↔ 0<=c∧c<=0x10ffff∧(c<0xd800∨0xdfff<c):=by unfold sg;exact decide_eq_true_iff
theorem a0z {c:Int} {b:Bool} (h:b=true ↔ (0<=c∧c<=0x10ffff∧(c<0xd800∨0xdfff<c))):Ending.returned (.bool b)=.returned (.bool (sg c)):=by
 refine dK ?_
 rw[cg,h,qH]
def bnd (j bias:Int):Int:=min (max (36*(j+1)-bias) 1) 26
theorem fW (j bias:Int):1<=bnd j bias∧bnd j bias<=26:=by unfold bnd;omega
def IO (d:Int):Int:=if d<26 then 97+d else 22+d
def wrt (c:Int):Int:=if 97<=c∧c<=122 then c-97 else if 65<=c∧c<=90 then c-65 else if 48<=c∧c<=57 then c-22 else -1
theorem wX (c:Int):-1<=wrt c∧wrt c<=35:=by unfold wrt;split <;>(try split) <;>(try split) <;>omega
def eF (c base:Int):Int :=
 let n:=if 48<=c∧c<=57 then c-48 else if 97<=c∧c<=122 then c-87 else if 65<=c∧c<=90 then c-55 else -1
 if base<=n then -1 else n
theorem om (c:Int) (w:World):Calls prog 233 #[.int .i64 c] w fun e w'=>e=.returned (.bool (sg c))∧w=w':=by
 have h:c<0∨(0<=c∧0x10ffff<c)∨(0<=c∧c<=0x10ffff∧c<0xd800)∨(0<=c∧c<=0x10ffff∧0xd800<=c∧0xdfff<c)∨(0<=c∧c<=0x10ffff∧0xd800<=c∧c<=0xdfff):=by omega
 rcases h with h|⟨h,h1⟩|⟨h,h1,h2⟩|⟨h,h1,h2,h3⟩|⟨h,h1,h2,h3⟩
 all_goals
  go_enter func233,ntmps233
  go_wp2
  go_ret
  exact⟨a0z (by simp;omega),rfl⟩
theorem vn (j bias:Int) (w:World) (h:0<=j∧j<=1024000000) (h2:0<=bias∧bias<=1000000):Calls prog 241 #[.int .i64 j,.int .i64 bias] w fun e w'=>e=.returned (.int .i64 (bnd j bias))∧w=w':=by
 go_enter func241,ntmps241
 go_wp2
 all_goals go_ret
 all_goals exact⟨gw (by unfold bnd;omega),rfl⟩
theorem vu (d:Int) (w:World) (h:0<=d∧d<36):Calls prog 244 #[.int .i64 d] w fun e w'=>e=.returned (.int .u8 (IO d))∧w=w':=by
 have h1:d<26∨26<=d:=by omega
 rcases h1 with h1|h1
 all_goals
  go_enter func244,ntmps244
  go_wp2
  go_ret
  exact⟨gw (by unfold IO;split <;>omega),rfl⟩
theorem Iv (c:Int) (w:World) (h:0<=c∧c<256):Calls prog 240 #[.int .u8 c] w fun e w'=>e=.returned (.int .i64 (wrt c))∧w=w':=by
 have h1:c<48∨(48<=c∧c<=57)∨(57<c∧c<65)∨(65<=c∧c<=90)∨(90<c∧c<97)∨(97<=c∧c<=122)∨122<c:=by omega
 rcases h1 with h1|⟨h1,h2⟩|⟨h1,h2⟩|⟨h1,h2⟩|⟨h1,h2⟩|⟨h1,h2⟩|h1
 all_goals
  go_enter func240,ntmps240
  go_wp2
  go_ret
  exact⟨gw (by unfold wrt;repeat (first|rw[if_pos (by omega)]|rw[if_neg (by omega)]);try omega),rfl⟩
theorem xB {c base n:Int} (h:(48<=c∧c<=57∧n=c-48)∨(97<=c∧c<=122∧n=c-87)∨(65<=c∧c<=90∧n=c-55)∨(¬(48<=c∧c<=57)∧¬ (97<=c∧c<=122)∧¬ (65<=c∧c<=90)∧n=-1)) :
  eF c base=if base<=n then -1 else n:=by
 have:(if 48<=c∧c<=57 then c-48 else if 97<=c∧c<=122 then c-87 else if 65<=c∧c<=90 then c-55 else -1)=n:=by
  rcases h with⟨h1,h2,rfl⟩|⟨h1,h2,rfl⟩|⟨h1,h2,rfl⟩|⟨h1,h2,h3,rfl⟩
  ·rw[if_pos ⟨h1,h2⟩]
  ·rw[if_neg (by omega),if_pos ⟨h1,h2⟩]
  ·rw[if_neg (by omega),if_neg (by omega),if_pos ⟨h1,h2⟩]
  rw[if_neg h1,if_neg h2,if_neg h3]
 unfold eF
 simp only[this]

theorem cY (c base:Int) (w:World) (h:0<=c∧c<256) (hb:0<=base∧base<=1000):Calls prog 62 #[.int .u8 c,.int .i64 base] w fun e w'=>e=.returned (.int .i64 (eF c base))∧w=w':=by
 have h1:c<48∨(48<=c∧c<=57)∨(57<c∧c<65)∨(65<=c∧c<=90)∨(90<c∧c<97)∨(97<=c∧c<=122)∨122<c:=by omega
 rcases h1 with h1|⟨h1,h2⟩|⟨h1,h2⟩|⟨h1,h2⟩|⟨h1,h2⟩|⟨h1,h2⟩|h1
 all_goals
  go_enter func62,ntmps62
  go_wp2
  all_goals go_ret
  all_goals exact⟨gw (by first|(rw[xB (n:=c-48) (by omega)];split <;>omega)|(rw[xB (n:=c-87) (by omega)];split <;>omega)|(rw[xB (n:=c-55) (by omega)];split <;>omega)|(rw[xB (n:=-1) (by omega)];split <;>omega)),rfl⟩

def oK:List Int->Int->Int->Int
 | [],_,f=>f
 |c::r,low,f=>oK r low (if low<=c∧(f<0∨c<f)then c else f)
theorem MI {l:List Int} {k:Nat} (h:k<l.length) (low f:Int):oK (l.drop k) low f=oK (l.drop (k+1)) low (if low<=l[k]∧(f<0∨l[k]<f)then l[k]else f):=by
 rw[ay h];rfl
theorem Hc (l:List Int) (low:Int) (v:Value) (w:World) (B:Nat) (h:Sl B w v (dw l)) (hl:l.length<=1024000000) :
  Calls prog 236 #[v,.int .i64 low] w fun e w'=>e=.returned (.int .i64 (oK l low (-1)))∧w=w':=by
 obtain⟨av,c,rfl⟩:=dt h
 rw[show(dw l).length=l.length by simp]at h ⊢
 have hat:=uf h
 clear h
 have HAT:=h_ hat;clear hat
 obtain⟨L,hL⟩:=ap (l.length)
 rw[<-hL]at hl ⊢
 have HL:=h_ hL;clear hL
 obtain⟨T,hT⟩:=ap (oK l low (-1))
 rw[<-hT]
 have HT:=h_ hT;clear hT
 go_enter func236,ntmps236
 go_wp2
 go_loopw [5,10] (fun f i wr=>∃ (k:Nat) (f':Int),k<=L∧i=.int .i64 k∧f=.int .i64 f'∧oK (l.drop k) low f'=T∧wr=w) (fun _ i _=>L-(intOf i).toNat)
 case atStart=>exact⟨0,-1,aO _,rfl,rfl,by rw[dx];exact HT.out.symm,rfl⟩
 case round =>
  obtain⟨k,f,hk,rfl,rfl,hf,rfl⟩:=hrel
  by_cases hlt:k<L
  ·have hx:k<l.length:=by have:=HL.out;omega
   obtain⟨b,o,rfl,hb,hcell⟩:=HAT.out k hx
   rw[MI hx]at hf
   obtain⟨x,kL⟩:=ap (l[k])
   rw[<-kL]at hf hcell
   clear kL
   have HF:=h_ hf;clear hf
   have hcs:x<low∨(low<=x∧f<0)∨(low<=x∧0<=f∧x<f)∨(low<=x∧0<=f∧f<=x):=by omega
   rcases hcs with h1|⟨h1,h2⟩|⟨h1,h2,h3⟩|⟨h1,h2,h3⟩
   all_goals
    go_wp2
    go_roundw
    case rel =>
     have hf:=HF.out
     first
      |(rw[if_pos (by omega)]at hf;exact⟨k+1,x,hlt,by simp,rfl,hf,trivial⟩)
      |(rw[if_neg (by omega)]at hf;exact⟨k+1,f,hlt,by simp,rfl,hf,trivial⟩)
    case measure=>simp[intOf];omega
  obtain rfl:L=k:=by omega
  rw[di (by have:=HL.out;omega)]at hf
  have hf':f=T:=hf
  clear hf
  subst hf'
  go_wp2
  go_ret
  exact⟨rfl,rfl⟩

def il:Nat->Int->Int->Int
 |0,e,k=>k+36*e/(e+38)
 |f+1,e,k=>if 455<e then il f (e/35) (k+36)else k+36*e/(e+38)
theorem BB (f:Nat) {e k:Int} (h:e<=455):il f e k=k+36*e/(e+38):=by
 cases f with
 |zero=>rfl
 |succ f=>unfold il;rw[if_neg (by omega)]
def nb (d n:Int) (first:Bool):Int :=
 let e:=if first then d/700 else d/2
 il 64 (e+e/n) 0
theorem ij {a b:Int} (h:0<=a):Int.tdiv a b=a/b:=WV h
theorem lf (d n:Int) (first:Bool) (w:World) (hd:0<=d∧d<=1099511627776) (hn:1<=n∧n<=1000) :
  Calls prog 235 #[.int .i64 d,.int .i64 n,.bool first] w fun e w'=>e=.returned (.int .i64 (nb d n first))∧w=w':=by
 obtain⟨T,hT⟩:=ap (nb d n first)
 rw[<-hT]
 obtain⟨e,he⟩:=ap (if first then d/700 else d/2)
 have hT2:T=il 64 (e+e/n) 0:=by rw[hT,he];rfl
 clear hT
 have he2:0<=e∧e<=549755813888:=by rw[he];split <;>omega
 have hq:0<=e/n∧e/n<=e:=⟨cM he2.1 (by omega),lD _ he2.1⟩
 have hen:Int.tdiv e n=e/n:=ij he2.1
 have HT:=h_ hT2;clear hT2
 cases first
 all_goals
  simp only[eM,if_false,if_true]at he
  have hd1:Int.tdiv d 700=d/700:=ij hd.1
  have hd2:Int.tdiv d 2=d/2:=ij hd.1
  subst he
  go_enter func235,ntmps235
  go_wp2
  go_loopw [0,7] (fun ev kv wr=>∃ (f:Nat) (e k:Int),ev=.int .i64 e∧kv=.int .i64 k∧il f e k=T∧0<=e∧e<2 ^ f∧e<=1099511627776∧0<=k∧k+36*f<=2304∧wr=w) (fun ev _ _=>(intOf ev).toNat)
  case atStart=>exact⟨64,_,0,rfl,rfl,HT.out.symm,by omega,by omega,by omega,by omega,by omega,rfl⟩
  case round =>
   obtain⟨f,e,k,rfl,rfl,hg,he0,hef,hel,hk0,Zy,rfl⟩:=hrel
   by_cases hlt:455<e
   ·cases f with
    |zero=>simp at hef;omega
    |succ f =>
     have hg2:il f (e/35) (k+36)=T:=by
      unfold il at hg
      rw[if_pos hlt]at hg
      exact hg
     rw[kh]at hef
     have HG:=h_ hg2;clear hg2 hg
     have Zn:e/35<2 ^ f:=by omega
     have HEF:=h_ Zn;clear Zn hef
     have h35:Int.tdiv e 35=e/35:=ij he0
     go_wp2
     go_roundw
     case rel=>exact⟨f,e/35,k+36,by simp,by simp,HG.out,by omega,HEF.out,by omega,by omega,by omega,trivial⟩
     case measure=>simp[intOf];omega
   rw[BB f (by omega)]at hg
   have hq:0<=36*e/(e+38)∧36*e/(e+38)<=36*e:=⟨cM (by omega) (by omega),lD _ (by omega)⟩
   have ht:Int.tdiv (36*e) (e+38)=36*e/(e+38):=ij (by omega)
   clear hef
   go_wp2
   go_ret
   exact⟨gw (by first|exact hg|rfl),rfl⟩

def lR:Bytes->Nat->Int->Int->Int->Int×Int
 | [],_,_,_,_=>(0,0)
 |x::r,j,sum,wt,bias =>
  let c:=wrt (b2 x)
  if c<0 then(0,0)
  else if 2147483647<sum+c*wt then(0,0)
  else if c<bnd j bias then(sum+c*wt,(j:Int)+1)
  else lR r (j+1) (sum+c*wt) (wt*(36-bnd j bias)) bias
theorem Hv {l:Bytes} {k:Nat} (h:k<l.length) (sum wt bias:Int):lR (l.drop k) k sum wt bias =
  if wrt (b2 l[k])<0 then(0,0)else if 2147483647<sum+wrt (b2 l[k])*wt then(0,0)else if wrt (b2 l[k])<bnd k bias then(sum+wrt (b2 l[k])*wt,(k:Int)+1)
  else lR (l.drop (k+1)) (k+1) (sum+wrt (b2 l[k])*wt) (wt*(36-bnd k bias)) bias:=by
 rw[ay h];rfl
def rd (l:Bytes) (bias:Int):Int×Int:=lR l 0 0 1 bias
theorem yj {a b:Int} {t:Int×Int} (h:(a,b)=t):Ending.returned (.tuple #[.int .i64 a,.int .i64 b])=.returned (.tuple #[.int .i64 t.1,.int .i64 t.2]):=by subst h;rfl
theorem MM {c wt:Int} (h:0<=c∧c<=36) (hw:1<=wt∧wt<=77309411292):0<=c*wt∧c*wt<=2783138806512:=by
 refine⟨dN h.1 (by omega),?_⟩
 have h1:c*wt<=36*wt:=dX h.2 (by omega)
 omega
theorem CY {c wt:Int} (h:1<=c) (hw:1<=wt):wt<=c*wt:=by
 have h1:1*wt<=c*wt:=dX h (by omega)
 omega
theorem Ai (s:ByteArray) (bias:Int) (w:World) (hs:s.size<=921600000) (hb:0<=bias∧bias<=1000000) :
  Calls prog 232 #[.string s,.int .i64 bias] w fun e w'=>e=.returned (.tuple #[.int .i64 (rd (ls s) bias).1,.int .i64 (rd (ls s) bias).2])∧w=w':=by
 obtain⟨T,hT⟩:=ap (rd (ls s) bias)
 rw[<-hT]
 have HT:=h_ hT;clear hT
 obtain⟨l,hl⟩:=ap (ls s)
 have hsl:s=bs l:=by rw[hl,nJ]
 obtain⟨L,hL⟩:=ap (s.size)
 have Xd:L=l.length:=by rw[hL,hl,de]
 have hsz:s.size=L:=hL.symm
 have HL:=h_ Xd;clear Xd
 have HS:=h_ hsl;clear hsl
 have HLS:=h_ hl;clear hl
 rw[hsz]at hs
 clear hL
 go_enter func232,ntmps232
 go_wp2
 go_loopw [6,7,13] (fun sv wv iv wr=>∃ (k:Nat) (sum wt:Int),k<=L∧iv=.int .i64 k∧sv=.int .i64 sum∧wv=.int .i64 wt∧lR (l.drop k) k sum wt bias=T∧0<=sum∧sum<=2147483647∧1<=wt∧wt<=77309411292∧wr=w) (fun _ _ i _=>L-(intOf i).toNat)
 case atStart=>exact⟨0,0,1,aO _,rfl,rfl,rfl,by rw[dx,HLS.out];exact HT.out.symm,by omega,by omega,by omega,by omega,rfl⟩
 case round =>
  obtain⟨k,sum,wt,hk,rfl,rfl,rfl,hf,hs0,hs1,hw0,hw1,rfl⟩:=hrel
  by_cases hlt:k<L
  ·have hx:k<l.length:=by have:=HL.out;omega
   have hk2:k<s.size:=by omega
   rw[Hv hx,<-bV HS.out hk2 hx]at hf
   have Xg:0<=((s[k]'hk2).toNat:Int)∧((s[k]'hk2).toNat:Int)<256:=by have:=(s[k]'hk2).toNat_lt;omega
   have hcr:=wX ((s[k]'hk2).toNat:Int)
   obtain⟨c,hc⟩:=ap (wrt ((s[k]'hk2).toNat:Int))
   rw[<-hc]at hf hcr
   have LS:=fun W=>Iv ((s[k]'hk2).toNat:Int) W Xg
   rw[<-hc]at LS
   have HWA:=h_ LS;clear LS Xg hc
   have hbr:=fW k bias
   have hba:=fun W=>vn k bias W (by omega) hb
   obtain⟨b,hb'⟩:∃ b,b=bnd k bias:=⟨_,rfl⟩
   rw[<-hb']at hf hba hbr
   have lA:=h_ hba;clear hba hb'
   by_cases hc0:c<0
   ·rw[if_pos hc0]at hf
    have HF:=h_ hf;clear hf
    go_wp2_with (first|(go_at_call 240;refine(HWA.out _).mono ?_;rintro e w2 ⟨rfl,rfl⟩)|fail)
    go_ret2
    exact⟨yj HF.out,rfl⟩
   rw[if_neg hc0]at hf
   have hm:=MM (c:=c) (wt:=wt) (by omega) ⟨hw0,hw1⟩
   have hm1:=fun h=>CY (c:=c) (wt:=wt) h hw0
   obtain⟨p,hp⟩:=ap (c*wt)
   rw[<-hp]at hf hm hm1
   by_cases hgr:2147483647<sum+p
   ·rw[if_pos hgr]at hf
    have HF:=h_ hf;clear hf
    rw[hp]at hgr hm
    clear hm1
    go_wp2_with (first|(go_at_call 240;refine(HWA.out _).mono ?_;rintro e w2 ⟨rfl,rfl⟩)|fail)
    go_ret2
    exact⟨yj HF.out,rfl⟩
   rw[if_neg hgr]at hf
   have hcb:c<b∨b<=c:=by omega
   rcases hcb with hcb|hcb
   ·rw[if_pos hcb]at hf
    have HF:=h_ hf;clear hf
    rw[hp]at hgr hm HF
    clear hm1
    go_wp2_with (first|(go_at_call 240;refine(HWA.out _).mono ?_;rintro e w2 ⟨rfl,rfl⟩)|(go_at_call 241;refine(lA.out _).mono ?_;rintro e w2 ⟨rfl,rfl⟩)|fail)
    go_ret2
    exact⟨yj HF.out,rfl⟩
   rw[if_neg (by omega)]at hf
   have hwl:wt<=2147483647:=by have:=hm1 (by omega);omega
   have hm2:=MM (c:=36-b) (wt:=wt) (by omega) ⟨hw0,hw1⟩
   have P6:36-b<=35:=by omega
   have hm4:=CY (c:=36-b) (wt:=wt) (by omega) hw0
   have hm5:(36-b)*wt<=77309411292:=by
    have h1:(36-b)*wt<=35*wt:=dX P6 (by omega)
    omega
   rw[nC (36-b) wt]at hm2 hm4 hm5
   have HF:=h_ hf;clear hf
   rw[hp]at hgr hm HF
   clear hm1
   go_wp2_with (first|(go_at_call 240;refine(HWA.out _).mono ?_;rintro e w2 ⟨rfl,rfl⟩)|(go_at_call 241;refine(lA.out _).mono ?_;rintro e w2 ⟨rfl,rfl⟩)|fail)
   go_roundw
   case rel=>exact⟨k+1,sum+c*wt,wt*(36-b),hlt,by simp,rfl,rfl,HF.out,by omega,by omega,by omega,by omega,trivial⟩
   case measure=>simp[intOf];omega
  obtain rfl:L=k:=by omega
  rw[di (by have:=HL.out;omega)]at hf
  have HF:=h_ hf;clear hf
  go_wp2
  go_ret2
  exact⟨yj HF.out,rfl⟩

def db (d:Int):UInt8:=UInt8.ofNat (IO d).toNat
theorem Gp {d:Int} (h:0<=d∧d<36):48<=IO d∧IO d<=122:=by unfold IO;split <;>omega
theorem Ep {d:Int} (h:0<=d∧d<36):b2 (db d)=IO d:=by
 have:=Gp h
 unfold b2 db
 rw[eN]
 omega
def lN:Nat->Nat->Int->Int->Bytes
 |0,_,d,_=>[db d]
 |f+1,j,d,bias=>if d<bnd j bias then [db d]else db (bnd j bias+(d-bnd j bias)%(36-bnd j bias))::lN f (j+1) ((d-bnd j bias)/(36-bnd j bias)) bias
def lO (d bias:Int):Bytes:=lN 40 0 d bias
theorem kt (f j:Nat) {d bias:Int} (h:d<bnd j bias):lN f j d bias=[db d]:=by
 cases f with
 |zero=>rfl
 |succ f=>unfold lN;rw[if_pos h]
theorem ku {f j:Nat} {d bias:Int} (h:¬ d<bnd j bias) (hf:d<2 ^ f) (h0:0<=d) :
  ∃g,f=g+1∧lN f j d bias=db (bnd j bias+(d-bnd j bias)%(36-bnd j bias))::lN g (j+1) ((d-bnd j bias)/(36-bnd j bias)) bias∧(d-bnd j bias)/(36-bnd j bias)<2 ^ g:=by
 have hb:=fW j bias
 cases f with
 |zero=>simp at hf;omega
 |succ g =>
  refine⟨g,rfl,by rw[lN,if_neg h],?_⟩
  rw[kh]at hf
  have h1:(d-bnd j bias)/(36-bnd j bias)<=(d-bnd j bias)/2:=by
   refine Int.le_ediv_of_mul_le (by omega) ?_
   have h2:(d-bnd j bias)/(36-bnd j bias)*(36-bnd j bias)<=d-bnd j bias:=Int.ediv_mul_le _ (by omega)
   have h3:(d-bnd j bias)/(36-bnd j bias)*2<=(d-bnd j bias)/(36-bnd j bias)*(36-bnd j bias):=O0 (by omega) (cM (by omega) (by omega))
   omega
  omega
def a27 (w:World) (base:Nat) (l:Bytes):Ending->World->Prop:=fun en w' =>
 ∃v',en=.returned v'∧w'.ownsRow base 5 1 v' l.length (Lib.byteCells l)∧w.heap.size<=w'.heap.size∧Below base w w'
theorem Iw (v:Value) (l:Bytes) (d bias:Int) (base:Nat) (w:World) (h:w.ownsRow base 5 1 v l.length (Lib.byteCells l)) (hl:l.length<=1024000000) (hbase:base<=w.heap.size)
  (hd:0<=d∧d<1099511627776) (hb:0<=bias∧bias<=1000000) :
  Calls prog 237 #[v,.int .i64 d,.int .i64 bias] w fun e w'=>a27 w base (l++lO d bias) e w':=by
 obtain⟨i8,q9,vJ,jK,ky⟩:=info_parts ly
 obtain⟨T,hT⟩:=ap (l++lO d bias)
 rw[<-hT]
 have HT:=h_ hT;clear hT
 have H:=h_ h;clear h
 have HLL:=h_ hl;clear hl
 go_enter func237,ntmps237
 go_wp2
 go_loopw [0,1,7] (fun ov dv jv wr=>∃ (f j:Nat) (d:Int) (acc:Bytes),dv=.int .i64 d∧jv=.int .i64 j∧wr.ownsRow base 5 1 ov acc.length (Lib.byteCells acc)∧acc.length<=1024000000+j ∧
   acc++lN f j d bias=T∧0<=d∧d<1099511627776∧d<2 ^ f∧j+f<=40∧w.heap.size<=wr.heap.size∧Below base w wr) (fun _ dv _ _=>(intOf dv).toNat)
 case atStart=>exact⟨40,0,d,l,rfl,rfl,H.out,by have:=HLL.out;omega,HT.out.symm,hd.1,hd.2,by omega,by omega,ae _,Below.refl _ _⟩
 case round =>
  obtain⟨f,j,d,acc,rfl,rfl,hown,hal,hacc,hd0,hd1,hdf,hjf,hwz,hbel⟩:=hrel
  have HO:=h_ hown;clear hown
  have HB:=h_ hbel;clear hbel
  have hbr:=fW j bias
  have hba:=fun W=>vn j bias W (by omega) hb
  obtain⟨b,hb'⟩:∃ b,b=bnd j bias:=⟨_,rfl⟩
  have hlast:=kt f j (d:=d) (bias:=bias)
  have hmore:=ku (f:=f) (j:=j) (d:=d) (bias:=bias)
  rw[<-hb']at hbr hba hlast hmore
  have lA:=h_ hba;clear hba hb'
  by_cases hlt:d<b
  ·rw[hlast hlt]at hacc
   have hdr:0<=d∧d<36:=by omega
   have hdg:=fun W=>vu d W hdr
   have hb2:=Ep hdr
   have hsn:=fO acc (db d)
   rw[hb2]at hsn
   rw[hacc]at hsn
   have hTl:T.length=acc.length+1:=by rw[<-hacc];simp
   obtain⟨y,hy⟩:=ap (IO d)
   rw[<-hy]at hdg hsn
   have Ji:=h_ hdg;clear hdg hb2 hy hlast hmore hdf hdr
   have lC:=h_ hsn;clear hsn hacc
   have yT:=h_ hTl;clear hTl
   obtain⟨al,s7⟩:∃ al,al=acc.length:=⟨_,rfl⟩
   have ho:=HO.out
   rw[<-s7]at hal ho
   have uJ:=h_ ho;clear ho HO
   have lI:=h_ s7;clear s7
   go_wp2_with (first
    |(go_at_call 241;refine(lA.out _).mono ?_;rintro e w2 ⟨rfl,rfl⟩)
    |(go_at_call 244;refine(Ji.out _).mono ?_;rintro e w2 ⟨rfl,rfl⟩)
    |(at_builtin;(refine ez rfl (.tmp 17) (.tmp 20) _ rfl base 5 i8 (.int .u8 0) 1 underlying50 q9 vJ jK ky (by decide) _ _ _ (Lib.byteCells acc) rfl uJ.out (.int .u8 y) rfl rfl (by omega) (by decide) (by omega) ?_);intro v2 w2 hown2 hw2 hb2;have eO:=h_ hown2;clear hown2;have HB2:=h_ hb2;clear hb2))
   go_ret
   refine⟨_,rfl,?_,by omega,HB.out.trans HB2.out⟩
   rw[yT.out,lC.out,<-lI.out]
   exact eO.out
  obtain⟨g,rfl,hmo,Zm⟩:=hmore hlt hdf hd0
  rw[hmo]at hacc
  have hr:0<=(d-b)%(36-b)∧(d-b)%(36-b)<36-b:=⟨mL _ (by omega),jC _ (by omega)⟩
  have hq:0<=(d-b)/(36-b)∧(d-b)/(36-b)<=d-b:=⟨cM (by omega) (by omega),lD _ (by omega)⟩
  have ht1:Int.tmod (d-b) (36-b)=(d-b)%(36-b):=cZ (by omega)
  have ht2:Int.tdiv (d-b) (36-b)=(d-b)/(36-b):=ij (by omega)
  have hdr:0<=b+(d-b)%(36-b)∧b+(d-b)%(36-b)<36:=by omega
  have hdg:=fun W=>vu _ W hdr
  have hb2:=Ep hdr
  have hsn:=fO acc (db (b+(d-b)%(36-b)))
  rw[hb2]at hsn
  obtain⟨y,hy⟩:=ap (IO (b+(d-b)%(36-b)))
  rw[<-hy]at hdg hsn
  have Ji:=h_ hdg;clear hdg hb2 hy hlast hmore hdf hdr
  have lC:=h_ hsn;clear hsn
  have HAC:=h_ hacc;clear hacc hmo
  have HG2:=h_ Zm;clear Zm
  obtain⟨al,s7⟩:∃ al,al=acc.length:=⟨_,rfl⟩
  have ho:=HO.out
  rw[<-s7]at hal ho
  have uJ:=h_ ho;clear ho HO
  have lI:=h_ s7;clear s7
  go_wp2_with (first
   |(go_at_call 241;refine(lA.out _).mono ?_;rintro e w2 ⟨rfl,rfl⟩)
   |(go_at_call 244;refine(Ji.out _).mono ?_;rintro e w2 ⟨rfl,rfl⟩)
   |(at_builtin;(refine ez rfl (.tmp 25) (.tmp 33) _ rfl base 5 i8 (.int .u8 0) 1 underlying50 q9 vJ jK ky (by decide) _ _ _ (Lib.byteCells acc) rfl uJ.out (.int .u8 y) rfl rfl (by omega) (by decide) (by omega) ?_);intro v2 w2 hown2 hw2 hb2;have eO:=h_ hown2;clear hown2;have HB2:=h_ hb2;clear hb2))
  go_roundw
  case rel =>
   refine⟨g,j+1,(d-b)/(36-b),acc++[db (b+(d-b)%(36-b))],by simp,by simp,?_,by rw[af,<-lI.out];simp;omega,?_,by omega,by omega,HG2.out,by omega,by omega,HB.out.trans HB2.out⟩
   ·rw[af,<-lI.out,lC.out]
    exact eO.out
   rw[aX];exact HAC.out
  case measure=>simp[intOf];omega

structure En where
 out:Bytes
 d:Int
 done:Int
 bias:Int
 first:Bool
def gx (sign c:Int) (s:En):En :=
 if c=sign then⟨s.out++lO (if c<sign then s.d+1 else s.d) s.bias,0,s.done+1,nb (if c<sign then s.d+1 else s.d) (s.done+1) s.first,false⟩
 else⟨s.out,if c<sign then s.d+1 else s.d,s.done,s.bias,s.first⟩
def dW (sign:Int):List Int->En->En
 | [],s=>s
 |c::r,s=>dW sign r (gx sign c s)
theorem Dv {l:List Int} {k:Nat} (h:k<l.length) (sign:Int) (s:En):dW sign (l.drop k) s=dW sign (l.drop (k+1)) (gx sign l[k] s):=by
 rw[ay h];rfl
theorem wA (sign:Int):∀ (l m:List Int) (s:En),dW sign (l++m) s=dW sign m (dW sign l s)
 | [],_,_=>rfl
 |_::r,m,s=>wA sign r m (gx sign _ s)
theorem tS (sign:Int) {l:List Int} {k:Nat} (h:k<l.length) (s:En):dW sign (l.take (k+1)) s=gx sign l[k] (dW sign (l.take k) s):=by
 rw[aH h,wA];rfl
def nL:Nat->List Int->Int->En->Bytes
 |0,_,_,s=>s.out
 |f+1,l,sign,s =>
  if s.done<l.length then
   let m:=oK l sign (-1)
   let t:=dW m l ⟨s.out,s.d+(m-sign)*(s.done+1),s.done,s.bias,s.first⟩
   nL f l (m+1) ⟨t.out,t.d+1,t.done,t.bias,t.first⟩
  else s.out
def kr (l:List Int):Bytes:=(l.filter (fun c=>decide (c<128))).map (fun c=>UInt8.ofNat c.toNat)
def hyp (b:Bytes):Bytes:=if b.length=0 then []else [45]
def Cd (l:List Int):Bytes:=nL l.length l 128 ⟨kr l++hyp (kr l),0,(kr l).length,72,true⟩
def cnt (l:List Int) (sign:Int):Nat:=(l.filter (fun c=>decide (c<sign))).length
def eqs (l:List Int) (sign:Int):Nat:=(l.filter (fun c=>decide (c=sign))).length
theorem Kw (l:List Int) (sign:Int):cnt l sign<=l.length:=eQ _ _
theorem su (sign:Int):∀ l:List Int,cnt l (sign+1)=cnt l sign+eqs l sign
 | []=>rfl
 |c::r=>by
  have ih:=su sign r
  unfold cnt eqs at *
  by_cases h1:c<sign
  ·rw[bn (by simp;omega),bn (by simp;omega),bm (by simp;omega)]
   simp only[ag];omega
  by_cases h2:c=sign
  ·rw[bn (by simp;omega),bm (by simp;omega),bn (by simp;omega)]
   simp only[ag];omega
  rw[bm (by simp;omega),bm (by simp;omega),bm (by simp;omega)]
  omega
theorem zd {m sign:Int} (hm:sign<=m):∀ {l:List Int},(∀c∈l,sign<=c->m<=c)->cnt l m=cnt l sign
 | [],_=>rfl
 |c::r,h=>by
  have ih:=zd hm (l:=r) (fun c hc=>h c (by simp[hc]))
  have hc:=h c (by simp)
  unfold cnt at *
  by_cases h1:c<sign
  ·rw[bn (by simp;omega),bn (by simp;omega)]
   simp only[ag];omega
  have:=hc (by omega)
  rw[bm (by simp;omega),bm (by simp;omega)]
  exact ih
theorem EH {m:Int} {l:List Int} (h:m∈l):1<=eqs l m:=by
 unfold eqs
 exact List.length_pos_of_mem (List.mem_filter.mpr ⟨h,by simp⟩)
theorem cnt_lt {l:List Int} {sign:Int} (h:cnt l sign<l.length):∃ c∈l,sign<=c:=by
 by_cases hn:∃ c∈l,sign<=c
 ·exact hn
 exfalso
 have:l.filter (fun c=>decide (c<sign))=l:=List.filter_eq_self.mpr fun c hc=>by
  simp only[decide_eq_true_eq]
  by_cases h2:c<sign
  ·exact h2
  exact absurd ⟨c,hc,by omega⟩ hn
 unfold cnt at h
 rw[this]at h
 omega
theorem tC:∀ (l:List Int) (low f:Int),0<=low->(f<0∨low<=f) ->
  (oK l low f=f∧∀ c∈l,low<=c->0<=f∧f<=c)∨(oK l low f∈l∧low<=oK l low f∧(∀c∈l,low<=c->oK l low f<=c)∧(0<=f->oK l low f<=f))
 | [],low,f,_,_=>.inl ⟨rfl,by simp⟩
 |x::r,low,f,hl,hf=>by
  have e:oK (x::r) low f=oK r low (if low<=x∧(f<0∨x<f)then x else f):=rfl
  by_cases h:low<=x∧(f<0∨x<f)
  ·rw[if_pos h]at e
   have ih:=tC r low x hl (.inr h.1)
   rw[e]
   right
   rcases ih with⟨h1,h2⟩|⟨h1,h2,h3,h4⟩
   ·refine⟨by rw[h1];simp,by rw[h1];exact h.1,fun c hc hlc=>?_,fun h0=>by rw[h1];omega⟩
    rw[h1]
    rcases aN.mp hc with rfl|hc
    ·exact jG _
    exact(h2 c hc hlc).2
   have h5:=h4 (by omega)
   refine⟨by simp[h1],h2,fun c hc hlc=>?_,fun h0=>by omega⟩
   rcases aN.mp hc with rfl|hc
   ·exact h5
   exact h3 c hc hlc
  rw[if_neg h]at e
  have ih:=tC r low f hl hf
  rw[e]
  rcases ih with⟨h1,h2⟩|⟨h1,h2,h3,h4⟩
  ·left
   refine⟨h1,fun c hc hlc=>?_⟩
   rcases aN.mp hc with rfl|hc
   ·omega
   exact h2 c hc hlc
  right
  refine⟨by simp[h1],h2,fun c hc hlc=>?_,h4⟩
  rcases aN.mp hc with rfl|hc
  ·have:0<=f∧f<=c:=by omega
   have:=h4 this.1
   omega
  exact h3 c hc hlc
theorem vQ {l:List Int} {low:Int} (h0:0<=low) (h:∃ c∈l,low<=c):oK l low (-1)∈l∧low<=oK l low (-1)∧∀ c∈l,low<=c->oK l low (-1)<=c:=by
 rcases tC l low (-1) h0 (.inl (by omega))with⟨h1,h2⟩|⟨h1,h2,h3,_⟩
 ·obtain⟨c,hc,hl⟩:=h
  have:=(h2 c hc hl).1
  omega
 exact⟨h1,h2,h3⟩
theorem oT:∀ (f:Nat) (e k:Int),0<=e->0<=k->0<=il f e k∧il f e k<=k+36*f+36
 |0,e,k,he,hk=>by
  have h1:0<=36*e/(e+38):=cM (by omega) (by omega)
  have h2:36*e/(e+38)<=36:=by
   refine a8h (by omega) ?_
   omega
  unfold il
  omega
 |f+1,e,k,he,hk=>by
  unfold il
  split
  ·have:=oT f (e/35) (k+36) (by omega) (by omega)
   omega
  have h1:0<=36*e/(e+38):=cM (by omega) (by omega)
  have h2:36*e/(e+38)<=36:=by
   refine a8h (by omega) ?_
   omega
  omega
theorem tE {d n:Int} (first:Bool) (hd:0<=d) (hn:1<=n):0<=nb d n first∧nb d n first<=2400:=by
 unfold nb
 have h0:0<=(if first then d/700 else d/2):=by split <;>omega
 have h1:0<=(if first then d/700 else d/2)/n:=cM h0 (by omega)
 have:=oT 64 ((if first then d/700 else d/2)+(if first then d/700 else d/2)/n) 0 (by omega) (by omega)
 simp only
 omega
theorem zq:∀ (f j:Nat) (d bias:Int),1<=(lN f j d bias).length∧(lN f j d bias).length<=f+1
 |0,j,d,bias=>by simp[lN]
 |f+1,j,d,bias=>by
  unfold lN
  split
  ·simp
  have:=zq f (j+1) ((d-bnd j bias)/(36-bnd j bias)) bias
  simp only[ag]
  omega
theorem sH (d bias:Int):1<=(lO d bias).length∧(lO d bias).length<=41:=zq 40 0 d bias
theorem wC (sign:Int) (l:List Int) (s:En) (hd:0<=s.d) (hdn:0<=s.done) (hb:0<=s.bias∧s.bias<=2400) :
  ∀k,k<=l.length->0<=(dW sign (l.take k) s).d∧(dW sign (l.take k) s).d<=s.d+k∧(dW sign (l.take k) s).done=s.done+eqs (l.take k) sign ∧
   0<=(dW sign (l.take k) s).bias∧(dW sign (l.take k) s).bias<=2400∧(dW sign (l.take k) s).out.length<=s.out.length+41*eqs (l.take k) sign
 |0,_=>by
  rw[gZ]
  have:eqs [] sign=0:=rfl
  show 0<=s.d∧_
  refine⟨hd,?_,?_,hb.1,hb.2,?_⟩
  ·show s.d<=s.d+_;omega
  ·show s.done=_;rw[this];omega
  show s.out.length<=_;omega
 |k+1,hk=>by
  have hx:k<l.length:=by omega
  obtain⟨h1,h2,h3,h4,h5,h6⟩:=wC sign l s hd hdn hb k (by omega)
  rw[tS sign hx,aH hx]
  have he:eqs (l.take k++[l[k]]) sign=eqs (l.take k) sign+if l[k]=sign then 1 else 0:=by
   unfold eqs
   rw[fV,af]
   by_cases h:l[k]=sign
   ·rw[if_pos h,bn (by simp[h])];rfl
   rw[if_neg h,bm (by simp[h])];rfl
  rw[he]
  generalize dW sign (l.take k) s=t at *
  generalize eqs (l.take k) sign=q at *
  unfold gx
  by_cases h:l[k]=sign
  ·rw[if_pos h,if_pos h]
   rw[if_neg (by omega)]
   have hn:=tE (d:=t.d) (n:=t.done+1) t.first h1 (by omega)
   have hl:=sH t.d t.bias
   refine⟨jG _,?_,?_,hn.1,hn.2,?_⟩
   ·show(0:Int)<=_;omega
   ·show t.done+1=_;omega
   show(t.out++lO t.d t.bias).length<=_;rw[af];omega
  rw[if_neg h,if_neg h]
  refine⟨?_,?_,?_,h4,h5,?_⟩
  ·dsimp only;split <;>omega
  ·dsimp only;split <;>omega
  ·show t.done=_;omega
  show t.out.length<=_;omega

theorem sL (f:Nat) {l:List Int} {sign:Int} {s:En} (h:¬ s.done<l.length):nL f l sign s=s.out:=by
 cases f with
 |zero=>rfl
 |succ f=>unfold nL;rw[if_neg h]
theorem sM (f:Nat) {l:List Int} {sign:Int} {o:Bytes} {d dn bi:Int} {fi:Bool} (h:dn<l.length) :
  nL (f+1) l sign ⟨o,d,dn,bi,fi⟩=nL f l (oK l sign (-1)+1) ⟨(dW (oK l sign (-1)) l ⟨o,d+(oK l sign (-1)-sign)*(dn+1),dn,bi,fi⟩).out,(dW (oK l sign (-1)) l ⟨o,d+(oK l sign (-1)-sign)*(dn+1),dn,bi,fi⟩).d+1,
   (dW (oK l sign (-1)) l ⟨o,d+(oK l sign (-1)-sign)*(dn+1),dn,bi,fi⟩).done,(dW (oK l sign (-1)) l ⟨o,d+(oK l sign (-1)-sign)*(dn+1),dn,bi,fi⟩).bias,(dW (oK l sign (-1)) l ⟨o,d+(oK l sign (-1)-sign)*(dn+1),dn,bi,fi⟩).first⟩:=by
 rw[nL,if_pos h]
theorem UX (l:List Int) (m:Int):eqs l m<=l.length:=eQ _ _
theorem Kf {l:List Int} {k:Nat} (h:k<l.length):kr (l.take (k+1))=kr (l.take k)++if l[k]<128 then [UInt8.ofNat l[k].toNat]else []:=by
 rw[aH h]
 unfold kr
 rw[fV,mN]
 by_cases h2:l[k]<128
 ·rw[if_pos h2,bn (by simpa using h2)];rfl
 rw[if_neg h2,bm (by simpa using h2)];rfl
theorem xn (l:List Int):(kr l).length=cnt l 128:=by unfold kr cnt;rw[aj]
theorem si (l:List Int):(kr l).length<=l.length:=by rw[xn];exact Kw l 128
theorem Sq {c:Int} (h:0<=c∧c<256):b2 (UInt8.ofNat c.toNat)=c:=by
 unfold b2
 rw[eN]
 omega
def encR (l:List Int):Bytes×Bool:=if 255<l.length∨¬ l.all sg=true then([],false)else(Cd l,true)
theorem yi {l:Bytes} {b:Bool} {t:Bytes×Bool} (h:t=(l,b)):Ending.returned (.tuple #[S l,.bool b])=.returned (.tuple #[S t.1,.bool t.2]):=by subst h;rfl
theorem JV {l:List Int} {k:Nat} (h:k<l.length) (ha:∀ c∈l.take k,sg c=true) (hx:sg l[k]=true):∀ c∈l.take (k+1),sg c=true:=by
 rw[aH h]
 intro c hc
 rcases bl.mp hc with h|h
 ·exact ha c h
 simp at h;subst h;exact hx
theorem KU {l:List Int} {c:Int} (hc:c∈l) (h:sg c=false):encR l=([],false):=by
 unfold encR
 rw[if_pos]
 right
 intro ha
 have:=ch.mp ha c hc
 rw[h]at this
 exact absurd this (by simp)
theorem Pw {l:List Int} (hl:l.length<=255) (h:∀ c∈l,sg c=true):encR l=(Cd l,true):=by
 unfold encR
 rw[if_neg]
 rintro(h1|h1)
 ·omega
 exact h1 (ch.mpr h)
theorem row_one {sign c:Int} {o:Bytes} {d dn bi:Int} {fi:Bool} (h:c=sign):gx sign c ⟨o,d,dn,bi,fi⟩=⟨o++lO d bi,0,dn+1,nb d (dn+1) fi,false⟩:=by
 unfold gx
 simp only
 rw[if_pos h,if_neg (by omega)]
theorem Al {sign c:Int} {o:Bytes} {d dn bi:Int} {fi:Bool} (h:c<sign):gx sign c ⟨o,d,dn,bi,fi⟩=⟨o,d+1,dn,bi,fi⟩:=by
 unfold gx
 simp only
 rw[if_neg (by omega),if_pos h]
theorem Am {sign c:Int} {o:Bytes} {d dn bi:Int} {fi:Bool} (h:sign<c):gx sign c ⟨o,d,dn,bi,fi⟩=⟨o,d,dn,bi,fi⟩:=by
 unfold gx
 simp only
 rw[if_neg (by omega),if_neg (by omega)]
theorem Fc {a b:Int} (h:0<=a∧a<=1114112) (hb:1<=b∧b<=256):0<=a*b∧a*b<=285212672:=by
 refine⟨dN h.1 (by omega),?_⟩
 have h1:a*b<=a*256:=O0 hb.2 h.1
 omega
theorem zz (l:List Int) (av:Option Addr) (c:Nat) (w:World) (h:Sl w.heap.size w (.slice av l.length c) (dw l)) (hl:l.length<=255) :
  Calls prog 225 #[.slice av l.length c] w fun e w'=>e=.returned (.tuple #[S (encR l).1,.bool (encR l).2])∧Below w.heap.size w w':=by
 obtain⟨i8,q9,vJ,jK,ky⟩:=info_parts ly
 have hat:=uf h
 have HAT:=h_ hat;clear hat
 obtain⟨R,hR⟩:=ap (encR l)
 rw[<-hR]
 have HR:=h_ hR;clear hR
 obtain⟨L,hL⟩:=ap (l.length)
 rw[<-hL]at h hl ⊢
 have HS:=h_ h;clear h
 have HL:=h_ hL;clear hL
 go_enter func225,ntmps225
 go_wp2
 go_loopw [4,20] (fun ov iv wr=>∃ (k:Nat),k<=L∧iv=.int .i64 k∧wr.ownsRow w.heap.size 5 1 ov (kr (l.take k)).length (Lib.byteCells (kr (l.take k)))∧(∀x∈l.take k,sg x=true)∧w.heap.size<=wr.heap.size∧Below w.heap.size w wr) (fun _ i _=>L-(intOf i).toNat)
 case atStart=>exact⟨0,aO _,rfl,⟨by simp[kr,Lib.byteCells],.inl ⟨rfl,by simp[kr]⟩⟩,by simp,ae _,Below.refl _ _⟩
 case round =>
  obtain⟨k,hk,rfl,hown,hall,hwz,hbel⟩:=hrel
  have HO:=h_ hown;clear hown
  have HA:=h_ hall;clear hall
  have HB:=h_ hbel;clear hbel
  by_cases hlt:k<L
  ·have hx:k<l.length:=by have:=HL.out;omega
   obtain⟨b,o,rfl,hb,h1⟩:=HAT.out k hx
   have hcell:wr.cell? ⟨b,o+k,none⟩=some (.int .i64 l[k]):=by
    rw[(HB.out).cell (p:=⟨b,o+k,none⟩) hb,h1]
   clear h1
   have hmem:l[k]∈l:=bJ hx
   have hbs:=Kf hx
   have has:=JV hx HA.out
   have hbl:(kr (l.take k)).length<=k:=aq (si _) (List.length_take_le _ _)
   obtain⟨x,kL⟩:=ap (l[k])
   rw[<-kL]at hcell hmem hbs has
   clear kL
   have yz:=h_ hbs;clear hbs
   have HAS:=h_ has;clear has
   have HM:=h_ hmem;clear hmem
   have hsa:=fun W=>om x W
   cases hsg:sg x with
   |false =>
    rw[hsg]at hsa
    have u6:=h_ hsa;clear hsa
    have hres:=KU HM.out hsg
    have u5:=h_ hres;clear hres hsg
    go_wp2_with (first
     |(go_at_call 233;refine(u6.out _).mono ?_;rintro e w2 ⟨rfl,rfl⟩)
     |fail)
    go_ret2
    exact⟨yi (l:=[]) (b:=false) (by rw[HR.out,u5.out]),HB.out⟩
   |true =>
    have hsr:=qH.mp hsg
    rw[hsg]at hsa
    have u6:=h_ hsa;clear hsa
    have kJ:=h_ hsg;clear hsg
    have hcs:x<128∨128<=x:=by omega
    rcases hcs with hc|hc
    ·go_wp2_with (first
      |(go_at_call 233;refine(u6.out _).mono ?_;rintro e w2 ⟨rfl,rfl⟩)
      |(at_builtin;(refine ez rfl (.tmp 29) (.tmp 32) _ rfl w.heap.size 5 i8 (.int .u8 0) 1 underlying50 q9 vJ jK ky (by decide) _ _ _ (Lib.byteCells (kr (l.take k))) rfl HO.out (.int .u8 x) rfl rfl (by omega) (by decide) (by omega) ?_);intro v2 w2 hown2 hw2 hb2;have eO:=h_ hown2;clear hown2;have HB2:=h_ hb2;clear hb2))
     go_roundw
     case rel =>
      refine⟨k+1,hlt,by simp,?_,HAS.out kJ.out,by omega,HB.out.trans HB2.out⟩
      rw[yz.out,if_pos hc,af,fO,Sq (by omega)]
      exact eO.out
     case measure=>simp[intOf];omega
    go_wp2_with (first
     |(go_at_call 233;refine(u6.out _).mono ?_;rintro e w2 ⟨rfl,rfl⟩)
     |fail)
    go_roundw
    case rel =>
     refine⟨k+1,hlt,by simp,?_,HAS.out kJ.out,by omega,HB.out⟩
     rw[yz.out,if_neg (by omega),aV]
     exact HO.out
    case measure=>simp[intOf];omega
  obtain rfl:L=k:=by omega
  have e1:l.take L=l:=aI (by have:=HL.out;omega)
  have ho:=HO.out
  have hall:=HA.out
  rw[e1]at ho hall
  have hre:=Pw (by have:=HL.out;omega) hall
  have u5:=h_ hre;clear hre
  have FH:=h_ hall;clear hall
  clear HO HA e1
  obtain⟨ao,co,hv⟩:=dt (Sl.bL ho)
  rw[Lib.byteCells_length]at hv
  subst hv
  have hnl:=si l
  have hnc:=xn l
  obtain⟨n,hn⟩:=ap ((kr l).length)
  rw[<-hn]at ho hnl hnc ⊢
  have a84:n<=L:=by have:=HL.out;omega
  clear hnl
  have HN:=h_ hn;clear hn
  have HNC:=h_ hnc;clear hnc
  have HO:=h_ ho;clear ho
  have ZS:n=0->wr.ownsRow w.heap.size 5 1 (.slice ao n co) (kr l++hyp (kr l)).length (Lib.byteCells (kr l++hyp (kr l))):=by
   intro h0
   have e:hyp (kr l)=[]:=by unfold hyp;rw[if_pos (by rw[<-HN.out];exact h0)]
   rw[e,aV,<-HN.out]
   exact HO.out
  have ZT:0<n->∀ (v2:Value) (w2:World),w2.ownsRow w.heap.size 5 1 v2 (n+1) (Lib.byteCells (kr l)++[.int .u8 45])->w2.ownsRow w.heap.size 5 1 v2 (kr l++hyp (kr l)).length (Lib.byteCells (kr l++hyp (kr l))):=by
   intro h0 v2 w2 h2
   have e:hyp (kr l)=[45]:=by unfold hyp;rw[if_neg (by rw[<-HN.out];omega)]
   rw[e,af,fO,<-HN.out]
   exact h2
  have Jo:=h_ ZS;clear ZS
  have rv:=h_ ZT;clear ZT
  have hsl:(kr l++hyp (kr l)).length<=n+1:=by
   rw[af,<-HN.out]
   unfold hyp
   split <;>simp
  obtain⟨O,hO⟩:=ap (kr l++hyp (kr l))
  have hT:Cd l=nL L l 128 ⟨O,0,n,72,true⟩:=by
   have e1:=HN.out
   have e2:=HL.out
   unfold Cd
   rw[<-e1,<-e2,<-hO]
  rw[<-hO]at hsl
  rw[<-hO]at Jo rv
  clear hO
  have HSL:=h_ hsl;clear hsl
  obtain⟨T,On⟩:=ap (Cd l)
  rw[<-On]at hT u5
  have HT:=h_ hT;clear hT On
  have h0:n=0∨0<n:=by omega
  rcases h0 with rfl|h0
  all_goals
   go_wp2_with (at_builtin;(refine ez rfl (.tmp 39) (.tmp 40) _ rfl w.heap.size 5 i8 (.int .u8 0) 1 underlying50 q9 vJ jK ky (by decide) _ _ _ (Lib.byteCells (kr l)) rfl HO.out (.int .u8 45) rfl rfl (by omega) (by decide) (by omega) ?_);intro v2 w2 hown2 hw2 hb2;have eO:=h_ hown2;clear hown2;have HB2:=h_ hb2;clear hb2)
   go_loopw [4,7,8,9,10,11] (fun ov nv dv sv bv fv wq=>∃ (f:Nat) (o:Bytes) (d dn bi:Int) (fi:Bool) (sg:Int),nv=.int .i64 dn∧dv=.int .i64 d∧sv=.int .i64 sg∧bv=.int .i64 bi∧fv=.bool fi ∧
    wq.ownsRow w.heap.size 5 1 ov o.length (Lib.byteCells o)∧nL f l sg ⟨o,d,dn,bi,fi⟩=T∧dn=cnt l sg∧(L:Int)-dn<=f∧128<=sg∧sg<=1114112∧0<=d∧d<=(dn+1)*300000000∧0<=bi∧bi<=2400 ∧
    (o.length:Int)<=300+41*dn∧w.heap.size<=wq.heap.size∧Below w.heap.size w wq) (fun _ nv _ _ _ _ _=>L-(intOf nv).toNat)
   case atStart =>
    refine⟨L,O,0,_,72,true,128,rfl,rfl,rfl,rfl,rfl,?_,HT.out.symm,by have:=HNC.out;omega,by omega,by omega,by omega,by omega,by omega,by omega,by omega,by have:=HSL.out;omega,?_,?_⟩
    ·first|exact Jo.out trivial|exact Jo.out rfl|exact rv.out h0 _ _ eO.out
    ·omega
    first|exact HB.out|exact HB.out.trans HB2.out
   case round =>
    obtain⟨f,o,d,dn,bi,fi,sn,rfl,rfl,rfl,rfl,rfl,hown,hT,hdn,hf,a9b,a9c,hd0,hd1,a3V,a3W,hol,hwz,hbel⟩:=hrel
    have lB:=h_ hown;clear hown
    have HB3:=h_ hbel;clear hbel
    by_cases hlt:dn<L
    ·cases f with
     |zero=>omega
     |succ g =>
      have hex:=cnt_lt (l:=l) (sign:=sn) (by have:=HL.out;omega)
      obtain⟨hm1,hm2,P6⟩:=vQ (by omega) hex
      have hmore:=sM g (l:=l) (sign:=sn) (o:=o) (d:=d) (bi:=bi) (fi:=fi) (dn:=dn) (by have:=HL.out;omega)
      rw[hmore]at hT
      have hla:=fun(W:World) (B:Nat) (v:Value) (h:Sl B W v (dw l))=>Hc l sn v W B h (by have:=HL.out;omega)
      obtain⟨m,hm⟩:=ap (oK l sn (-1))
      rw[<-hm]at hm1 hm2 P6 hT hla
      clear hm hmore hex
      have hmr:=(qH.mp (FH.out m hm1)).2.1
      have heq1:=EH hm1
      have hcn:=su m l
      rw[zd hm2 P6,]at hcn
      have a8M:0<=dn:=by omega
      have HDN:=h_ hdn;clear hdn
      have IJ:=h_ hla;clear hla
      have hmul:=Fc (a:=m-sn) (b:=dn+1) (by omega) (by omega)
      have hinv:=wC m l ⟨o,d+(m-sn)*(dn+1),dn,bi,fi⟩ (by show 0<=d+_;omega) (by show 0<=dn;omega) ⟨a3V,a3W⟩
      have hdl:=hinv l.length (ae _)
      rw[dY]at hdl
      obtain⟨s0,hs0⟩:∃ s0:En,s0=⟨o,d+(m-sn)*(dn+1),dn,bi,fi⟩:=⟨_,rfl⟩
      rw[<-hs0]at hinv hdl hT
      have ZO:s0.d=d+(m-sn)*(dn+1):=by rw[hs0]
      have ZP:s0.done=dn:=by rw[hs0]
      have ZQ:s0.out=o:=by rw[hs0]
      rw[ZO,ZP,ZQ]at hinv hdl
      have Rx:=h_ hdl;clear hdl
      have a2d:=h_ hinv;clear hinv
      have OW:=h_ hT;clear hT
      have HM3:=h_ P6;clear P6 hm1
      have a2C:=h_ ((HS.out).below HB3.out)
      have Rv:=h_ hcn;clear hcn
      go_wp2_with (first
       |(go_at_call 236;refine(IJ.out _ _ _ a2C.out).mono ?_;rintro e w2 ⟨rfl,rfl⟩)
       |fail)
      have HS0:=h_ hs0;clear hs0 ZO ZP ZQ
      have HZ3:=h_ hwz;clear hwz
      go_loopw [4,7,8,10,11,60] (fun ov nv dv bv fv iv wz=>∃ (k:Nat) (o':Bytes) (d' AV Sv:Int) (SR:Bool),k<=L∧iv=.int .i64 k∧nv=.int .i64 AV∧dv=.int .i64 d'∧bv=.int .i64 Sv∧fv=.bool SR ∧
       wz.ownsRow w.heap.size 5 1 ov o'.length (Lib.byteCells o')∧dW m (l.take k) s0=⟨o',d',AV,Sv,SR⟩∧w.heap.size<=wz.heap.size∧Below w.heap.size w wz) (fun _ _ _ _ _ iv _=>L-(intOf iv).toNat)
      case atStart=>exact⟨0,o,d+(m-sn)*(dn+1),dn,bi,fi,aO _,rfl,rfl,rfl,rfl,rfl,lB.out,HS0.out,HZ3.out,HB3.out⟩
      case round =>
       obtain⟨k,o',d',AV,Sv,SR,hk,rfl,rfl,rfl,rfl,rfl,hown,hrow,hwz,hbel⟩:=hrel
       have Bf:=h_ hown;clear hown
       have eZ:=h_ hbel;clear hbel
       by_cases Vz:k<L
       ·have hx:k<l.length:=by have:=HL.out;omega
        obtain⟨ba,oa,rfl,hb,h1⟩:=HAT.out k hx
        have hcell:wr.cell? ⟨ba,oa+k,none⟩=some (.int .i64 l[k]):=by
         rw[(eZ.out).cell (p:=⟨ba,oa+k,none⟩) hb,h1]
        clear h1
        have hiv:=a2d.out k (by omega)
        rw[hrow]at hiv
        have hel:=UX (l.take k) m
        have hkl:(l.take k).length<=k:=List.length_take_le _ _
        obtain⟨hi1,hi2,hi3,hi4,hi5,Zt⟩:=hiv
        simp only at hi1 hi2 hi3 hi4 hi5 Zt
        have P9:=tS m hx s0
        rw[hrow]at P9
        obtain⟨x,kL⟩:=ap (l[k])
        rw[<-kL]at hcell P9
        clear kL
        generalize eqs (l.take k) m=q at *
        have a86:o'.length<=102400000:=by omega
        have hdb:d' < 1099511627776:=by omega
        have a8L:0<=AV∧AV<=600:=by omega
        clear hi2 hi3 Zt hel hkl hrow
        have lC:=h_ P9;clear P9
        have hcs:x<m∨x=m∨m<x:=by omega
        rcases hcs with hc|hc|hc
        ·go_wp2
         go_roundw
         case rel=>exact⟨k+1,o',d'+1,AV,Sv,SR,Vz,by simp,rfl,rfl,rfl,rfl,Bf.out,by rw[lC.out,Al hc],hwz,eZ.out⟩
         case measure=>simp[intOf];omega
        ·subst hc
         go_wp2_with (first
          |(go_at_call 237;refine(Iw _ o' d' Sv w.heap.size _ Bf.out (by omega) hwz ⟨hi1,hdb⟩ (by omega)).mono ?_;rintro e w5 ⟨v5,rfl,hown5,hz5,hb5⟩;have uE:=h_ hown5;clear hown5;have fK:=h_ hb5;clear hb5;have HZ5:=h_ hz5;clear hz5)
          |(go_at_call 235;refine(lf d' (AV+1) SR _ (by omega) (by omega)).mono ?_;rintro e w6 ⟨rfl,rfl⟩)
          |fail)
         go_roundw
         case rel=>exact⟨k+1,o'++lO d' Sv,0,AV+1,nb d' (AV+1) SR,false,Vz,by simp,rfl,rfl,rfl,rfl,uE.out,by rw[lC.out,row_one rfl],by have:=HZ5.out;omega,eZ.out.trans fK.out⟩
         case measure=>simp[intOf];omega
        go_wp2
        go_roundw
        case rel=>exact⟨k+1,o',d',AV,Sv,SR,Vz,by simp,rfl,rfl,rfl,rfl,Bf.out,by rw[lC.out,Am hc],hwz,eZ.out⟩
        case measure=>simp[intOf];omega
       obtain rfl:L=k:=by omega
       rw[aI (by have:=HL.out;omega)]at hrow
       have hdl:=Rx.out
       have hT:=OW.out
       rw[hrow]at hdl hT
       obtain⟨hi1,hi2,hi3,hi4,hi5,Zt⟩:=hdl
       simp only at hi1 hi2 hi3 hi4 hi5 Zt hT
       have Xd:=HL.out
       rw[<-Xd]at hi2
       have a30:=Rv.out
       have a31:=HDN.out
       have TW:=h_ hT;clear hT
       clear hrow Xd
       have hnew:AV=cnt l (m+1):=by omega
       have hdd:d'+1<=(AV+1)*300000000:=by omega
       have hoo:(o'.length:Int)<=300+41*AV:=by omega
       have a8N:dn<AV:=by omega
       have a8O:AV<=255:=by have:=Kw l (m+1);have:=HL.out;omega
       have a2n:=h_ hnew;clear hnew hi2 hi3 Zt a30 heq1 hmul a31
       have WJ:=h_ hdd
       have HOO:=h_ hoo;clear hoo
       go_wp2
       go_roundw
       case rel=>exact⟨g,o',d'+1,AV,Sv,SR,m+1,rfl,rfl,rfl,rfl,rfl,Bf.out,TW.out,a2n.out,by omega,by omega,by omega,by omega,WJ.out,hi4,hi5,HOO.out,hwz,eZ.out⟩
       case measure=>simp[intOf];omega
    rw[sL f (by show ¬dn<_;have:=HL.out;omega)]at hT
    have hT':o=T:=hT
    clear hT
    have kc:=md underlying50 underlying5 underlying9 lB.out
    rw[hT']at kc
    have HTO:=h_ hT';clear hT'
    have KC:=h_ kc;clear kc
    have kc:=KC.out
    go_wp2
    go_ret2
    exact⟨yi (by rw[HR.out,u5.out]),HB3.out⟩
theorem Ce (l:List Int) (v:Value) (w:World) (h:Sl w.heap.size w v (dw l)) :
  Calls prog 225 #[v] w fun e w'=>e=.returned (.tuple #[S (encR l).1,.bool (encR l).2])∧Below w.heap.size w w':=by
 obtain⟨av,c,rfl⟩:=dt h
 rw[show(dw l).length=l.length by simp]at h ⊢
 by_cases hl:l.length<=255
 ·exact zz l av c w h hl
 have hr:encR l=([],false):=by unfold encR;rw[if_pos (.inl (by omega))]
 obtain⟨R,hR⟩:=ap (encR l)
 rw[<-hR]at hr ⊢
 have HR:=h_ hr;clear hr hR h
 generalize l.length=L at *
 go_enter func225,ntmps225
 go_wp2
 go_ret2
 exact⟨yi (l:=[]) (b:=false) HR.out,Below.refl _ _⟩

theorem Md (c lo hi:Int) (w:World):Calls prog 228 #[.int .i64 c,.int .i64 lo,.int .i64 hi] w fun e w'=>e=.returned (.bool (decide (lo<=c∧c<=hi)))∧w=w':=by
 have h:c<lo∨(lo<=c∧hi<c)∨(lo<=c∧c<=hi):=by omega
 rcases h with h|⟨h,h2⟩|⟨h,h2⟩
 all_goals
  go_enter func228,ntmps228
  go_wp2
  go_ret
  exact⟨dK (by simp;omega),rfl⟩
theorem fz (c lo hi:Int) (w:World) (h:lo<=c∧c<=hi):Calls prog 228 #[.int .i64 c,.int .i64 lo,.int .i64 hi] w fun e w'=>e=.returned (.bool true)∧w=w' :=
 (Md c lo hi w).mono fun e w' h'=>⟨by rw[h'.1,decide_eq_true h],h'.2⟩
theorem fy (c lo hi:Int) (w:World) (h:¬ (lo<=c∧c<=hi)):Calls prog 228 #[.int .i64 c,.int .i64 lo,.int .i64 hi] w fun e w'=>e=.returned (.bool false)∧w=w' :=
 (Md c lo hi w).mono fun e w' h'=>⟨by rw[h'.1,decide_eq_false h],h'.2⟩
def mJ (c:Int):List Int :=
 if(0x41<=c∧c<=0x5a)∨(0xc0<=c∧c<=0xd6)∨(0xd8<=c∧c<=0xde)∨(0x391<=c∧c<=0x3a1)∨(0x3a3<=c∧c<=0x3a9)∨(0x410<=c∧c<=0x42f)then [c+0x20]
 else if(0x100<=c∧c<=0x12e)∧c%2=0 then [c+1]
 else if c=0x130 then [0x69,0x307]
 else if 0x400<=c∧c<=0x40f then [c+0x50]
 else if c=0x2024∨c=0x3002∨c=0xff61 then [0x2e]
 else if c=0x2100 then [0x61,0x2f,0x63]
 else if c=0x2105 then [0x63,0x2f,0x6f]
 else if 0x2460<=c∧c<=0x2468 then [c-0x2460+0x31]
 else if 0xff21<=c∧c<=0xff3a then [c-0xfee0+0x20]
 else if 0xff01<=c∧c<=0xff5e then [c-0xfee0]
 else if 0x1d7ce<=c∧c<=0x1d7ff then [0x30+(c-0x1d7ce)%10]
 else []
theorem AG (c:Int) :
  (((0x41<=c∧c<=0x5a)∨(0xc0<=c∧c<=0xd6)∨(0xd8<=c∧c<=0xde)∨(0x391<=c∧c<=0x3a1)∨(0x3a3<=c∧c<=0x3a9)∨(0x410<=c∧c<=0x42f))∧mJ c=[c+0x20]) ∨
  ((0x100<=c∧c<=0x12e)∧c%2=0∧mJ c=[c+1]) ∨
  ((0x100<=c∧c<=0x12e)∧c%2=1∧mJ c=[]) ∨
  (c=0x130∧mJ c=[0x69,0x307]) ∨
  ((0x400<=c∧c<=0x40f)∧mJ c=[c+0x50]) ∨
  ((c=0x2024∨c=0x3002∨c=0xff61)∧mJ c=[0x2e]) ∨
  (c=0x2100∧mJ c=[0x61,0x2f,0x63]) ∨
  (c=0x2105∧mJ c=[0x63,0x2f,0x6f]) ∨
  ((0x2460<=c∧c<=0x2468)∧mJ c=[c-0x2460+0x31]) ∨
  ((0xff21<=c∧c<=0xff3a)∧mJ c=[c-0xfee0+0x20]) ∨
  (((0xff01<=c∧c<=0xff20)∨(0xff3b<=c∧c<=0xff5e))∧mJ c=[c-0xfee0]) ∨
  ((0x1d7ce<=c∧c<=0x1d7ff)∧mJ c=[0x30+(c-0x1d7ce)%10]) ∨
  (¬((0x41<=c∧c<=0x5a)∨(0xc0<=c∧c<=0xd6)∨(0xd8<=c∧c<=0xde)∨(0x391<=c∧c<=0x3a1)∨(0x3a3<=c∧c<=0x3a9)∨(0x410<=c∧c<=0x42f)∨(0x100<=c∧c<=0x12e)∨c=0x130∨(0x400<=c∧c<=0x40f)∨c=0x2024∨c=0x3002∨c=0xff61∨c=0x2100∨c=0x2105∨(0x2460<=c∧c<=0x2468)∨(0xff01<=c∧c<=0xff5e)∨(0x1d7ce<=c∧c<=0x1d7ff))∧mJ c=[]):=by
 unfold mJ
 split
 ·exact .inl ⟨by assumption,rfl⟩
 split
 ·exact .inr (.inl ⟨by omega,by omega,rfl⟩)
 by_cases hodd:0x100<=c∧c<=0x12e
 ·refine .inr (.inr (.inl ⟨hodd,by omega,?_⟩))
  iterate 9 rw[if_neg (by omega)]
 split
 ·exact .inr (.inr (.inr (.inl ⟨by assumption,rfl⟩)))
 split
 ·exact .inr (.inr (.inr (.inr (.inl ⟨by assumption,rfl⟩))))
 split
 ·exact .inr (.inr (.inr (.inr (.inr (.inl ⟨by assumption,rfl⟩)))))
 split
 ·exact .inr (.inr (.inr (.inr (.inr (.inr (.inl ⟨by assumption,rfl⟩))))))
 split
 ·exact .inr (.inr (.inr (.inr (.inr (.inr (.inr (.inl ⟨by assumption,rfl⟩)))))))
 split
 ·exact .inr (.inr (.inr (.inr (.inr (.inr (.inr (.inr (.inl ⟨by assumption,rfl⟩))))))))
 split
 ·exact .inr (.inr (.inr (.inr (.inr (.inr (.inr (.inr (.inr (.inl ⟨by assumption,rfl⟩)))))))))
 split
 ·exact .inr (.inr (.inr (.inr (.inr (.inr (.inr (.inr (.inr (.inr (.inl ⟨by omega,rfl⟩))))))))))
 split
 ·exact .inr (.inr (.inr (.inr (.inr (.inr (.inr (.inr (.inr (.inr (.inr (.inl ⟨by assumption,rfl⟩)))))))))))
 exact .inr (.inr (.inr (.inr (.inr (.inr (.inr (.inr (.inr (.inr (.inr (.inr ⟨by omega,rfl⟩)))))))))))

def dc (x:UInt8):UInt8:=if 65<=b2 x∧b2 x<=90 then UInt8.ofNat (b2 x+32).toNat else x
theorem Yq {c:Int} (h:0<=c∧c<256):b2 (UInt8.ofNat c.toNat)=c:=by
 unfold b2
 rw[eN]
 omega
theorem gl (x:UInt8):0<=b2 x∧b2 x<256:=by unfold b2;have:=x.toNat_lt;omega
theorem CU {x:UInt8} (h:65<=b2 x∧b2 x<=90):b2 (dc x)=b2 x+32:=by unfold dc;rw[if_pos h,Yq (by omega)]
theorem CV {x:UInt8} (h:¬ (65<=b2 x∧b2 x<=90)):dc x=x:=by unfold dc;rw[if_neg h]
def Mk (w:World) (e g:Nat) (l:Bytes):Prop:=∃ cs:Array Value,w.heap[g]? = some (.cells cs e (cs.size,cs.size+1))∧l.length<=cs.size∧cs.toList.take l.length=Lib.byteCells l
theorem Mk.at {w:World} {e g:Nat} {l:Bytes} (h:Mk w e g l) (k:Nat) (hk:k<l.length):w.cell? ⟨g,k,none⟩=some (.int .u8 (b2 l[k])):=by
 obtain⟨cs,h1,h2,h3⟩:=h
 rw[cell_of_row w g k cs e _ h1]
 have h4:=congrArg (fun x:List Value=>x[k]?) h3
 simp only[jE,if_pos hk]at h4
 rw[<-Array.getElem?_toList,h4]
 simp[Lib.byteCells,b2,hk]
theorem Mk.free {w:World} {e g:Nat} {l:Bytes} (h:Mk w e g l) (k:Nat) (hk:k<l.length):w.frozen? ⟨g,k,none⟩=false:=by
 obtain⟨cs,h1,h2,h3⟩:=h
 simp only[World.frozen?,h1]
 simp
 omega
theorem Mk.set {w:World} {e g:Nat} {l:Bytes} (h:Mk w e g l) (k:Nat) (y:UInt8):Mk (w.setCell ⟨g,k,none⟩ (.int .u8 (b2 y))) e g (l.set k y):=by
 obtain⟨cs,h1,h2,h3⟩:=h
 refine⟨cs.setIfInBounds k (.int .u8 (b2 y)),?_,by simpa using h2,?_⟩
 ·have hlt:g<w.heap.size:=by
   by_cases hlt:g<w.heap.size
   ·exact hlt
   rw[cJ (by omega)]at h1;cases h1
  have h1':w.heap[g]=.cells cs e (cs.size,cs.size+1):=by simpa[Array.getElem?_eq_getElem hlt]using h1
  show(w.heap.modify g _)[g]? = _
  rw[cF (by simpa using hlt),Array.getElem_modify_self,h1']
  simp
 rw[Array.toList_setIfInBounds,List.length_set,List.take_set,h3]
 simp[Lib.byteCells,b2,List.map_set]
theorem Mk.new (w:World) (e:Nat) (s:ByteArray) (c:Nat):Mk (w.drew.alloc (.cells (bytesRow s c) e ((bytesRow s c).size,(bytesRow s c).size+1))) e w.heap.size (ls s):=by
 refine⟨bytesRow s c,heap_alloc_new w.drew _,?_,?_⟩
 ·rw[de];unfold bytesRow;simp
 unfold bytesRow ls
 have e:(s.data.map (fun b=>Value.int .u8 b.toNat)).toList=Lib.byteCells s.data.toList:=by simp[Lib.byteCells]
 have e2:(Lib.byteCells s.data.toList).length=s.data.toList.length:=Lib.byteCells_length _
 rw[nl,e,<-e2,jg]
 rfl
theorem Mk.str {P:Program} {src dst e:TypeId} (hs:P.underlying src=some (.slice e)) (he:P.underlying e=some (.int .u8)) (hd:P.underlying dst=some .string) {w:World} {g:Nat} {l:Bytes} (h:Mk w e g l) (n c:Nat) (hn:n=l.length) :
  (convert src dst (.slice (some ⟨g,0,none⟩) n c)).run P w=.ok (.string (bs l)) w:=by
 subst hn
 refine run_convert_bytes_back (P:=P) w src dst e ⟨g,0,none⟩ c l hs he hd (fun j hj=>?_)
 rw[addr_add,bk,h.at j hj]
 rfl
theorem Aa {l:Bytes} {k:Nat} (h:k<l.length):((l.take k).map dc++l.drop k).set k (dc l[k])=(l.take (k+1)).map dc++l.drop (k+1):=by
 have hl:((l.take k).map dc).length=k:=by rw[aj,aA];omega
 rw[aH h,mN,ay h,a8l _ _ (by omega),hl,fc,aX]
 rfl
theorem MG {l:Bytes} {k:Nat} (h:k<l.length) (h':k<((l.take k).map dc++l.drop k).length):((l.take k).map dc++l.drop k)[k]=l[k]:=by
 have hl:((l.take k).map dc).length=k:=by rw[aj,aA];omega
 rw[XY (by omega)]
 simp[List.length_take,Nat.min_eq_left (by omega:k<=l.length)]
theorem Qs (l:Bytes) (k:Nat):((l.take k).map dc++l.drop k).length=l.length:=by rw[af,aj,aA,ai];omega
theorem qy (l:Bytes) (w:World) (hl:l.length<=maxLen):Calls prog 70 #[.string (bs l)] w fun e w'=>JP w (l.map dc) e w':=by
 unfold maxLen at hl
 obtain⟨s,hs⟩:=ap (bs l)
 have hsz:s.size=l.length:=by rw[hs,aB]
 obtain⟨L,hL⟩:=ap (l.length)
 rw[<-hL]at hl hsz
 rw[<-hs]
 have hmk:=Mk.new w 5 s (grownCap w s.size 0 5)
 rw[hs,du]at hmk
 rw[<-hs]at hmk
 have kc:=run_bytes_of_string (P:=prog) w 9 50 5 s underlying9 underlying50 underlying5
 obtain⟨W,hW⟩:=ap (w.drew.alloc (.cells (bytesRow s (grownCap w s.size 0 5)) 5 ((bytesRow s (grownCap w s.size 0 5)).size,(bytesRow s (grownCap w s.size 0 5)).size+1)))
 have hbl:Below w.heap.size w W:=by rw[hW];exact((Below.refl _ _).drew).alloc (ae _) _
 rw[<-hW]at kc hmk
 clear hW
 obtain⟨C,hC⟩:=ap (grownCap w s.size 0 5)
 rw[<-hC]at kc
 clear hC
 rw[hsz]at kc
 obtain⟨g,hg⟩:=ap (w.heap.size)
 rw[<-hg]at kc hmk
 have hgb:w.heap.size<=g:=by omega
 clear hg
 have HL:=h_ hL;clear hL
 have HMK:=h_ hmk;clear hmk
 have nB:=h_ hbl;clear hbl
 clear hs hsz
 go_enter func70,ntmps70
 go_wp2_with fail
 go_loopw [10] (fun iv wr=>∃ k:Nat,k<=L∧iv=.int .i64 k∧Mk wr 5 g ((l.take k).map dc++l.drop k)∧Below w.heap.size w wr) (fun i _=>L-(intOf i).toNat)
 case atStart=>exact⟨0,by omega,by simp,by simpa using HMK.out,nB.out⟩
 case round =>
  obtain⟨k,hk,rfl,hmk,hbl⟩:=hrel
  by_cases hlt:k<L
  ·have hx:k<l.length:=by have:=HL.out;omega
   have hx2:k<((l.take k).map dc++l.drop k).length:=by rw[Qs];exact hx
   have hcell:=hmk.at k hx2
   rw[MG hx hx2]at hcell
   have hfr:=hmk.free k hx2
   have hset:=hmk.set k (dc l[k])
   rw[Aa hx]at hset
   have Xg:=gl l[k]
   have hcs:(b2 l[k]<65∧dc l[k]=l[k])∨(65<=b2 l[k]∧90<b2 l[k]∧dc l[k]=l[k])∨(65<=b2 l[k]∧b2 l[k]<=90∧b2 (dc l[k])=b2 l[k]+32):=by
    by_cases h1:65<=b2 l[k]∧b2 l[k]<=90
    ·exact .inr (.inr ⟨h1.1,h1.2,CU h1⟩)
    have:=CV h1
    by_cases h2:b2 l[k]<65
    ·exact .inl ⟨h2,this⟩
    exact .inr (.inl ⟨by omega,by omega,this⟩)
   have hsame:dc l[k]=l[k]->Mk wr 5 g ((l.take (k+1)).map dc++l.drop (k+1)):=by
    intro h
    rw[<-Aa hx,h]
    have:((l.take k).map dc++l.drop k).set k l[k]=(l.take k).map dc++l.drop k:=by
     conv=>lhs;rw[<-MG hx hx2]
     exact List.set_getElem_self hx2
    rw[this];exact hmk
   obtain⟨x,kL⟩:=ap (b2 l[k])
   obtain⟨y,hy⟩:=ap (dc l[k])
   rw[<-kL]at hcell hcs Xg
   rw[<-hy]at hset hcs hsame
   obtain⟨eq,heq⟩:∃ eq:Prop,eq=(y=l[k]):=⟨_,rfl⟩
   rw[<-heq]at hcs hsame
   clear kL hy heq hx2
   have TS:=h_ hset;clear hset
   have RJ:=h_ hsame;clear hsame
   have lW:=h_ hbl;clear hbl
   clear hmk
   rcases hcs with⟨h1,h2⟩|⟨h1,h2,h3⟩|⟨h1,h2,h3⟩
   ·have HS:=h_ h2;clear h2
    go_wp2_with fail
    go_roundw
    case rel=>exact⟨k+1,by omega,by simp,RJ.out HS.out,lW.out⟩
    case measure=>simp[intOf];omega
   ·have HS:=h_ h3;clear h3
    go_wp2_with fail
    go_roundw
    case rel=>exact⟨k+1,by omega,by simp,RJ.out HS.out,lW.out⟩
    case measure=>simp[intOf];omega
   have HS:=h_ h3;clear h3
   go_wp2_with fail
   go_roundw
   case rel=>exact⟨k+1,by omega,by simp,by have:=TS.out;rw[HS.out,show x+32=x-65+97 by omega]at this;exact this,lW.out.setCell hgb _⟩
   case measure=>simp[intOf];omega
  obtain rfl:k=L:=by omega
  rw[aI (by have:=HL.out;omega),di (by have:=HL.out;omega),aV]at hmk
  have kc2:=hmk.str (P:=prog) underlying50 underlying5 underlying9 k C (by rw[aj,HL.out])
  have lW:=h_ hbl;clear hbl hmk
  go_wp2_with fail
  go_ret
  exact⟨rfl,lW.out⟩
end Go.Proofs.YtmndlfglgcioeaaGreatDoor
