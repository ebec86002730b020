/- EmB Esc PctD: joined. -/
import Derived.Test.YtmndlfglgcioeaaGreatDoorGEmA
import Derived.Test.YtmndlfglgcioeaaGreatDoorGBld
import Derived.Test.YtmndlfglgcioeaaGreatDoorGPctA
set_option maxHeartbeats 40000000
namespace Go.Proofs.YtmndlfglgcioeaaGreatDoor
open Tryz
open Go.RowKit
set_option maxRecDepth 10000
structure Hb (wb:World) (l:Bytes) (w:World):Prop where
 bld:∃ g,np wb.heap.size g l w∧∀ k,g=some k->wb.heap.size<=k
 bq:Below wb.heap.size wb w
theorem Hb.fresh (wb:World):Hb wb [] (wb.alloc (.cells #[.pointer none,.slice none 0 0] 79)) :=
 ⟨⟨none,np.fresh wb,fun _ h=>by cases h⟩,(Below.refl _ _).alloc (ae _) _⟩
theorem Hb.step {wb w w':World} {l:Bytes} (h:Hb wb l w) (hb:Below w.heap.size w w'):Hb wb l w':=by
 obtain⟨g,h1,h2⟩:=h.bld
 exact⟨⟨g,h1.below hb,h2⟩,h.bq.trans (hb.mono h.bq.size)⟩
theorem Hb.MQ {wb w w':World} {l':Bytes} {g:Option Nat} (hg:∀ k,g=some k->wb.heap.size<=k) (hb:Below wb.heap.size wb w) (h:Bm w wb.heap.size g l' w'):Hb wb l' w':=by
 obtain⟨g',a1,a2,a3⟩:=h
 refine⟨⟨g',a1,fun k hk=>?_⟩,hb.trans (a3.below hb.size ?_)⟩
 ·rcases a2 with h|⟨k',h,h'⟩
  ·exact hg k (h▸hk)
  rw[h]at hk;injection hk with hk;have:=hb.size;omega
 rintro k (h|h)
 ·omega
 exact hg k h
theorem Hb.ws {wb w:World} {l:Bytes} (m:Bytes) (h:Hb wb l w) (hlen:l.length+m.length<=1099511627776) :
  Calls prog 49 #[.pointer (some ⟨wb.heap.size,0,none⟩),S m] w fun e w'=>e=.returned (.tuple #[.int .i64 m.length,.nilIface])∧Hb wb (l++m) w':=by
 obtain⟨g,h1,h2⟩:=h.bld
 refine(iz m h1 hlen).mono ?_
 rintro e w' ⟨rfl,hr⟩
 exact⟨rfl,Hb.MQ h2 h.bq hr⟩
theorem Hb.wb1 {wb w:World} {l:Bytes} (m:UInt8) (n:Int) (hn:n=b2 m) (h:Hb wb l w) (hlen:l.length+1<=1099511627776) :
  Calls prog 54 #[.pointer (some ⟨wb.heap.size,0,none⟩),.int .u8 n] w fun e w'=>e=.returned .nilIface∧Hb wb (l++[m]) w':=by
 subst hn
 obtain⟨g,h1,h2⟩:=h.bld
 refine(uW m h1 hlen).mono ?_
 rintro e w' ⟨rfl,hr⟩
 exact⟨rfl,Hb.MQ h2 h.bq hr⟩
theorem Hb.str {wb w:World} {l:Bytes} (h:Hb wb l w) :
  Calls prog 52 #[.pointer (some ⟨wb.heap.size,0,none⟩)] w fun e w'=>e=.returned (S l)∧Below wb.heap.size wb w':=by
 obtain⟨g,h1,h2⟩:=h.bld
 refine(jQ wb.heap.size h1 (ae _) h2).mono ?_
 rintro e w' ⟨rfl,hr⟩
 exact⟨rfl,h.bq.trans hr⟩
theorem nc {B:Nat} {w:World} {av:Option Addr} {n c:Nat} {l:List Bytes} (h:Sl B w (.slice av n c) (l.map S)) (k:Nat) (hk:k<l.length) :
  ∃b o,av=some ⟨b,o,none⟩∧b<B∧w.cell? ⟨b,o+k,none⟩=some (S l[k]):=by
 obtain⟨c',_,_,h⟩:=h
 rcases h with⟨hn,_⟩|⟨b,o,hb,hv,ha⟩
 ·have:l=[]:=by simpa using hn
  subst this;simp at hk
 injection hv with h1 h2 h3
 refine⟨b,o,h1,hb,?_⟩
 have:=ha k (by simpa using hk)
 simpa using this
def a4Y (u:Url):Bytes:=if u.usr=[]∧u.ed=[]then []else if u.ed=[]then u.usr++[64]else u.usr++[58]++u.ed++[64]
def cy:List Bytes->Bytes
 | []=>[]
 |p::r=>[47]++p++cy r
theorem vM:∀ (l m:List Bytes),cy (l++m)=cy l++cy m
 | [],m=>rfl
 |p::l,m=>by simp[cy,vM l m]
theorem js (l:List Bytes) (p:Bytes):cy (l++[p])=cy l++[47]++p:=by simp[vM,cy]
def a0j (u:Url):Bytes:=if u.opq then u.flat else cy u.path
structure Bn (u:Url):Prop where
 path:u.path.length<=50
 tot:(u.path.map List.length).sum<=2000
 aC:u.aC.length<=100
 usr:u.usr.length<=500
 ed:u.ed.length<=500
 flat:u.flat.length<=1000
 q:u.q.length<=1000
 f:u.f.length<=1000
 name:u.host.name.length<=500
theorem vN:∀ l:List Bytes,(cy l).length=l.length+(l.map List.length).sum
 | []=>rfl
 |p::r=>by simp[cy,vN r];omega
theorem a0a (a:Array UInt8):ls ⟨a⟩=a.toList:=rfl

def sq (c:Int):Bool:=decide (c=9∨c=10∨c=12∨c=13∨c=32)
theorem iW (c:Int) (w:World):Calls prog 37 #[.int .u8 c] w fun e w'=>e=.returned (.bool (sq c))∧w'=w:=by
 go_enter func37,ntmps37
 go_wp2_with fail
 all_goals
  go_ret
  refine⟨dK ?_,rfl⟩
  unfold sq
  simp_all
def qj (c:Int):Bytes:=if c=38 then [38,97,109,112,59]else if c=34 then [38,35,51,52,59]else if c=39 then [38,35,51,57,59]else if c=60 then [38,35,54,48,59]else if c=62 then [38,35,54,50,59]else if c=96 then [38,35,57,54,59]else []
theorem zF (c:Int):(qj c).length<=5:=by
 unfold qj;repeat' split
 all_goals simp
theorem zH (c:Int) (w:World):Calls prog 53 #[.int .u8 c] w fun e w'=>e=.returned (S (qj c))∧w'=w:=by
 go_enter func53,ntmps53
 go_wp2_with fail
 all_goals
  go_ret
  refine⟨Wh ?_,rfl⟩
  unfold qj
  simp_all[a0a]
def iu (x:UInt8):Bytes:=if qj (b2 x)=[]then [x]else qj (b2 x)
theorem MU (x:UInt8):(iu x).length<=5:=by
 unfold iu
 have:=zF (b2 x)
 split
 ·simp
 exact this
def fh (l:Bytes):Bytes:=l.flatMap iu
theorem Gw (l:Bytes) (k:Nat) (hk:k<l.length):fh (l.take (k+1))=fh (l.take k)++iu l[k]:=by
 unfold fh
 rw[aH hk,dP,gH,List.flatMap_nil,aV]
theorem sU:∀ l:Bytes,(fh l).length<=5*l.length
 | []=>by simp[fh]
 |x::l=>by
  have:=sU l
  have h1:=MU x
  simp only[fh,gH,af,ag]at this ⊢
  omega
theorem Cg (l:Bytes) (w:World) (hl:l.length<=200000000000):Calls prog 21 #[.string (bs l)] w fun e w'=>e=.returned (S (fh l))∧Below w.heap.size w w':=by
 obtain⟨s,hs⟩:=ap (bs l)
 have hsz:s.size=l.length:=by rw[hs,aB]
 have hby:∀ k (hk:k<s.size) (hk2:k<l.length),((s[k]'hk).toNat:Int)=b2 l[k]:=fun k hk hk2=>bV hs hk hk2
 rw[<-hs]
 clear hs
 obtain⟨N,hN⟩:=ap (s.size)
 have jF:s.size=N:=hN.symm
 have pg:N<=200000000000:=by omega
 have fF:=h_ hby;clear hby
 have e7:=h_ hsz;clear hsz hl hN
 go_enter func21,ntmps21
 go_wp2_with fail
 go_loopw [8] (fun iv wr=>∃ k:Nat,k<=N∧iv=.int .i64 k∧Hid (Hb w (fh (l.take k)) wr)) (fun i _=>N-(intOf i).toNat)
 case atStart=>exact⟨0,by omega,by simp,Hb.fresh w⟩
 case round =>
  obtain⟨k,hk,rfl,hbd⟩:=hrel
  by_cases hlt:k<N
  ·have lV:k<s.size:=by omega
   have hkl:k<l.length:=by have:=e7.out;omega
   have hx:=fF.out k lV hkl
   have htk:=Gw l k hkl
   have hle:=sU (l.take k)
   rw[aA]at hle
   have hl1:(fh (l.take k)).length<=1000000000000:=by omega
   have VK:=iD l[k]
   generalize l[k]=x at hx htk VK
   have hel:=zF (b2 x)
   have hone:iu x=if qj (b2 x)=[]then [x]else qj (b2 x):=rfl
   have PY:=fun W=>zH (b2 x) W
   rw[hone]at htk
   clear hone hle VK
   obtain⟨E,hE⟩:=ap (qj (b2 x))
   rw[<-hE]at htk PY hel
   clear hE
   obtain⟨X,hX⟩:∃ X:Int,X=b2 x:=⟨_,rfl⟩
   rw[<-hX]at hx PY
   have HX:=h_ hX;clear hX
   have XA:=h_ PY;clear PY
   have OP:=h_ hl1;clear hl1
   have TG:=h_ hel;clear hel
   by_cases he:E=[]
   ·subst he
    rw[if_pos rfl]at htk
    have HT:=h_ htk;clear htk
    have e1:(bs []).toList.isEmpty=true:=by rw[au];rfl
    have e2:(bs []).toList=[]:=by rw[au]
    go_wp2_with (first
     |(go_at_call 53;refine(XA.out _).mono ?_;rintro e w2 ⟨rfl,hw2⟩;subst w2)
     |(go_at_call 54;refine(Hb.wb1 x _ HX.out hbd.out (by have:=OP.out;omega)).mono ?_;rintro e w2 ⟨rfl,s8⟩;have Bb:=h_ s8;clear s8)
     |fail)
    go_roundw
    case rel=>exact⟨k+1,by omega,by simp,by rw[HT.out];exact Bb⟩
    case measure=>simp[intOf];omega
   rw[if_neg he]at htk
   have HT:=h_ htk;clear htk
   have e1:(bs E).toList.isEmpty=false:=by rw[au];simpa using he
   have e2:¬ (bs E).toList=[]:=by rw[au];exact he
   clear he
   go_wp2_with (first
    |(go_at_call 53;refine(XA.out _).mono ?_;rintro e w2 ⟨rfl,hw2⟩;subst w2)
    |(go_at_call 49;refine(Hb.ws E hbd.out (by have:=OP.out;have:=TG.out;omega)).mono ?_;rintro e w2 ⟨rfl,s8⟩;have Bb:=h_ s8;clear s8)
    |fail)
   go_roundw
   case rel=>exact⟨k+1,by omega,by simp,by rw[HT.out];exact Bb⟩
   case measure=>simp[intOf];omega
  obtain rfl:k=N:=by omega
  go_wp2_with (first|(go_at_call 52;refine(Hb.str hbd.out).mono ?_;rintro e w2 ⟨rfl,hb2⟩;have HB2:=h_ hb2;clear hb2)|fail)
  go_ret
  refine⟨?_,HB2.out⟩
  have hz:=e7.out
  rw[jF]at hz
  rw[hz,dY];rfl

def nt (n:Nat):UInt8:=UInt8.ofNat (if n<10 then 48+n else 55+n)
theorem KM:∀ k:Fin 16,((⟨#[48,49,50,51,52,53,54,55,56,57,65,66,67,68,69,70]⟩:ByteArray)[k.val]'(by have:=k.isLt;show k.val<16;omega))=nt k.val:=by decide +kernel
def uI (set:Int) (x:UInt8):Bytes:=if jW set (b2 x)=true then [37,nt (x.toNat/16),nt (x.toNat%16)]else [x]
def df (set:Int) (l:Bytes):Bytes:=l.flatMap (uI set)
theorem QF (set:Int) (x:UInt8):(uI set x).length<=3:=by unfold uI;split <;>simp
theorem M8 (set:Int) (l:Bytes) (k:Nat) (hk:k<l.length):df set (l.take (k+1))=df set (l.take k)++uI set l[k]:=by
 unfold df
 rw[aH hk,dP,gH,List.flatMap_nil,aV]
theorem fB (set:Int):∀ l:Bytes,(df set l).length<=3*l.length
 | []=>by simp[df]
 |x::l=>by
  have:=fB set l
  have h1:=QF set x
  simp only[df,gH,af,ag]at this ⊢
  omega
theorem eo (set:Int) (l:Bytes) (w:World) (hl:l.length<=1024000000):Calls prog 132 #[.string (bs l),.int .i64 set] w fun e w'=>e=.returned (S (df set l))∧Below w.heap.size w w':=by
 obtain⟨s,hs⟩:=ap (bs l)
 have hsz:s.size=l.length:=by rw[hs,aB]
 have hby:∀ k (hk:k<s.size) (hk2:k<l.length),((s[k]'hk).toNat:Int)=b2 l[k]:=fun k hk hk2=>bV hs hk hk2
 rw[<-hs]
 clear hs
 obtain⟨N,hN⟩:=ap (s.size)
 have jF:s.size=N:=hN.symm
 have pg:N<=1024000000:=by omega
 have fF:=h_ hby;clear hby
 have e7:=h_ hsz;clear hsz hl hN
 go_enter func132,ntmps132
 go_wp2_with fail
 go_loopw [10] (fun iv wr=>∃ k:Nat,k<=N∧iv=.int .i64 k∧Hid (Hb w (df set (l.take k)) wr)) (fun i _=>N-(intOf i).toNat)
 case atStart=>exact⟨0,by omega,by simp,Hb.fresh w⟩
 case round =>
  obtain⟨k,hk,rfl,hbd⟩:=hrel
  by_cases hlt:k<N
  ·have lV:k<s.size:=by omega
   have hkl:k<l.length:=by have:=e7.out;omega
   have hx:=fF.out k lV hkl
   have htk:=M8 set l k hkl
   have hle:=fB set (l.take k)
   rw[aA]at hle
   have hl1:(df set (l.take k)).length<=3072000000:=by omega
   have VK:=iD l[k]
   generalize l[k]=x at hx htk VK
   unfold uI at htk
   have hin:=fun W=>QI set (b2 x) VK.1 VK.2 W
   clear hle
   obtain⟨q,hq⟩:=ap (x.toNat/16)
   obtain⟨r,hr⟩:=ap (x.toNat%16)
   have a4l:q<16:=by have:=x.toNat_lt;omega
   have a4m:r<16:=by omega
   rw[<-hq,<-hr]at htk
   obtain⟨F,hF⟩:=ap (jW set (b2 x))
   rw[<-hF]at htk hin
   clear hF
   obtain⟨X,hX⟩:∃ X:Int,X=b2 x:=⟨_,rfl⟩
   rw[<-hX]at hx hin VK
   have hXn:X=(x.toNat:Int):=hX
   have ht:Int.tdiv X 16=(q:Int):=by rw[hXn,hq];exact(Int.ofNat_tdiv x.toNat 16).symm
   have hm:Int.tmod X 16=(r:Int):=by rw[hXn,hr];exact(Int.ofNat_tmod x.toNat 16).symm
   have HX:=h_ hX;clear hX hXn hq hr
   have RD:=h_ hin;clear hin
   have OP:=h_ hl1;clear hl1
   cases F
   ·rw[if_neg (by simp)]at htk
    have HT:=h_ htk;clear htk ht hm
    go_wp2_with (first
     |(go_at_call 165;refine(RD.out _).mono ?_;rintro e w2 ⟨rfl,hw2⟩;subst w2)
     |(go_at_call 54;refine(Hb.wb1 x _ HX.out hbd.out (by have:=OP.out;omega)).mono ?_;rintro e w2 ⟨rfl,s8⟩;have Bb:=h_ s8;clear s8)
     |fail)
    go_roundw
    case rel=>exact⟨k+1,by omega,by simp,by rw[HT.out];exact Bb⟩
    case measure=>simp[intOf];omega
   rw[if_pos rfl]at htk
   have HT:=h_ htk;clear htk
   go_wp2_with (first
    |(go_at_call 165;refine(RD.out _).mono ?_;rintro e w2 ⟨rfl,hw2⟩;subst w2)
    |fail)
   go_at_call 54
   refine(Hb.wb1 37 37 rfl hbd.out (by have:=OP.out;omega)).mono ?_
   rintro e w2 ⟨rfl,s8⟩
   have Bb:=h_ s8;clear s8
   go_wp2_with fail
   go_at_call 54
   refine(Hb.wb1 (nt q) _ (by have e:=KM ⟨q,a4l⟩;simp only at e;rw[e];rfl) Bb.out (by have:=OP.out;simp only[af,ag,aQ];omega)).mono ?_
   rintro e w3 ⟨rfl,zT⟩
   have FI:=h_ zT;clear zT
   go_wp2_with fail
   go_at_call 54
   refine(Hb.wb1 (nt r) _ (by have e:=KM ⟨r,a4m⟩;simp only at e;rw[e];rfl) FI.out (by have:=OP.out;simp only[af,ag,aQ];omega)).mono ?_
   rintro e w4 ⟨rfl,Ze⟩
   have OF:=h_ Ze;clear Ze
   go_wp2_with fail
   go_roundw
   case rel=>exact⟨k+1,by omega,by simp,by rw[HT.out];have h:=OF.out;simp only[aX,bI,bW]at h;exact h⟩
   case measure=>simp[intOf];omega
  obtain rfl:k=N:=by omega
  go_wp2_with (first|(go_at_call 52;refine(Hb.str hbd.out).mono ?_;rintro e w2 ⟨rfl,hb2⟩;have HB2:=h_ hb2;clear hb2)|fail)
  go_ret
  refine⟨?_,HB2.out⟩
  have hz:=e7.out
  rw[jF]at hz
  rw[hz,dY];rfl
end Go.Proofs.YtmndlfglgcioeaaGreatDoor
