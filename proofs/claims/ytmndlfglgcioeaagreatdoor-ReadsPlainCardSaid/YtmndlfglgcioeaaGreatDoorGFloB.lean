/- FloB FloC FloD SrcT SrcU SrcV SrcW SrcY: joined. -/
import Derived.Deep.QuietTactic
import Derived.BigQuiet
import Derived.WalkMore
import Derived.Test.YtmndlfglgcioeaaGreatDoorGFloA
import Derived.Test.YtmndlfglgcioeaaGreatDoorGUtfD
import Derived.Test.YtmndlfglgcioeaaGreatDoorGHlwA
import Derived.Test.YtmndlfglgcioeaaGreatDoorGSixA
import Derived.Test.YtmndlfglgcioeaaGreatDoorGAthH
import Derived.Test.YtmndlfglgcioeaaGreatDoorGWlkH
import Derived.Test.YtmndlfglgcioeaaGreatDoorGWlkY
import Derived.Test.YtmndlfglgcioeaaGreatDoorGAthW
import Derived.Test.YtmndlfglgcioeaaGreatDoorShelf3
set_option maxHeartbeats 40000000
namespace Go.Proofs.YtmndlfglgcioeaaGreatDoor
open Tryz
open Go.RowKit
set_option maxRecDepth 10000
theorem UQ {x:UInt8} (r:Bytes) (h:b2 x<0x80):dr (x::r)=(x.toNat,1):=by
 have hn:=tG r h
 rcases ja x r with⟨h1,h2,h3,h4,h5,_⟩|⟨h1,_⟩
 ·rw[hn]at h3
  have hN:cE (x::r)=1:=by unfold cE;rw[hn];rfl
  rw[hN]at h2
  have h3':(dr (x::r)).1=x.toNat:=by unfold b2 at h3;simp only at h3;omega
  exact Prod.ext h3' h2
 rw[hn]at h1;cases h1
theorem YR {x:UInt8} (r:Bytes) (h:0x80<=b2 x):((dr (x::r)).1=65533∨(128<=(dr (x::r)).1∧Utf8.valid ((dr (x::r)).1:Int)=true))∧∀ y∈(x::r).take (dr (x::r)).2,0x80<=b2 y:=by
 have ht:=Dc r h
 have hN:=iQ x r
 rcases ja x r with⟨h1,h2,h3,h4,h5,h6⟩|⟨h1,h2,h3,h4,h5⟩
 ·rw[h2]
  refine⟨.inr ⟨?_,by rw[h3];exact h6⟩,ht⟩
  rcases cU (dr (x::r)).1 128 with hlt|hge
  ·rw[<-h3,sN (by omega) (by omega)]at h4
   obtain⟨j,hj⟩:∃ j,cE (x::r)=j+1:=⟨cE (x::r)-1,by omega⟩
   rw[hj,ex]at h4
   injection h4 with e1 _
   rw[<-e1]at h
   unfold b2 at h
   rw[bO (by omega)]at h
   omega
  exact hge
 refine⟨.inl h3,?_⟩
 rw[h4]
 intro y hy
 obtain rfl:y=x:=by simpa using hy
 exact h
def Ct (c:Int):Int:=if c=101 then 0 else if c=69 then 1 else -1
theorem Vt:∀ k:Fin 128,Lib.indexByte [101,69] (((k.val:Nat):Int).toNat.toUInt8)=Ct (k.val:Int):=by decide +kernel
theorem VR (c:Int) (w:World) (h0:0<=c) (h1:c<128):Calls prog 140 #[.string ⟨#[101,69]⟩,.int .i32 c] w fun e w'=>e=.returned (.int .i64 (Ct c))∧Below w.heap.size w w':=by
 have hk:=Vt ⟨c.toNat,by omega⟩
 have e:((c.toNat:Nat):Int)=c:=by omega
 simp only[e]at hk
 refine(Any.strings_IndexRune_ascii {laysIA with} ⟨#[101,69]⟩ c w h0 h1).mono ?_
 rintro e w' ⟨rfl,rfl⟩
 exact⟨by rw[<-hk],Below.refl _ _⟩
theorem YS:∀ k:Fin 2,Utf8.decode ⟨#[101,69]⟩ k.val=(if k.val=0 then(101,1)else(69,1)):=by decide +kernel
theorem Mg (w:World):Calls prog 140 #[.string ⟨#[101,69]⟩,.int .i32 65533] w fun e w'=>e=.returned (.int .i64 (-1))∧Below w.heap.size w w':=by
 go_enter func140,ntmps140
 go_wp2_with fail
 go_loopw [5,6] (fun _ _ wr=>∃ p:Nat,p<=2∧Hid (wr.heap[w.heap.size]? = some (.stringIter ⟨#[101,69]⟩ p))∧Hid (Below w.heap.size w wr)) (fun _ _ wr=>2-wr.iterPos w.heap.size)
 case atStart=>exact⟨0,by omega,World.iter_heap _ _ _,(Below.refl _ _).alloc (ae _) _⟩
 case round =>
  obtain⟨p,hp,HI,HB⟩:=hrel
  by_cases hlt:p<2
  ·have hnx:∀ ty,(Instr.next (.pointer (some ⟨w.heap.size,0,none⟩)) true ty).run prog wr=_:=fun ty=>Lib.run_next_any_at wr w.heap.size ⟨#[101,69]⟩ p ty HI.out hlt
   have hd:=YS ⟨p,hlt⟩
   have LA:=Lib.iterAt_heap wr w.heap.size ⟨#[101,69]⟩ p (p+1) HI.out
   have EK:=Lib.below_iterAt (HB.out) (k:=w.heap.size) (ae _) ⟨#[101,69]⟩ (p+1)
   have hpos:wr.iterPos w.heap.size=p:=iterPos_of HI.out
   have hp2:p=0∨p=1:=by omega
   simp only at hd
   have h1:(Utf8.decode ⟨#[101,69]⟩ p).2=1:=by rw[hd];split <;>rfl
   have h2:(Utf8.decode ⟨#[101,69]⟩ p).1=101∨(Utf8.decode ⟨#[101,69]⟩ p).1=69:=by rw[hd];split <;>simp
   obtain⟨rn,hrn⟩:=ap ((Utf8.decode ⟨#[101,69]⟩ p).1)
   rw[h1,<-hrn]at hnx
   rw[<-hrn]at h2
   clear hrn hd h1
   obtain⟨wi,hwi⟩:=ap (wr.iterAt w.heap.size ⟨#[101,69]⟩ (p+1))
   rw[<-hwi]at LA EK hnx
   have yK:=h_ LA;clear LA
   have lA:=h_ EK;clear EK
   have FQ:=h_ hpos;clear hpos
   clear hwi
   have hne:((rn:Int)==65533)=false:=by rcases h2 with rfl|rfl <;>rfl
   have hrk:((rn:Nat):Int)<128:=by omega
   go_wp2_with fail
   go_roundw
   case rel=>exact⟨p+1,by omega,yK.out,lA.out⟩
   case measure =>
    have e2:wi.iterPos w.heap.size=p+1:=iterPos_of yK.out
    rw[e2,FQ.out]
    omega
  obtain rfl:p=2:=by omega
  have hnx:∀ ty,(Instr.next (.pointer (some ⟨w.heap.size,0,none⟩)) true ty).run prog wr=_:=fun ty=>Lib.run_next_end_at wr w.heap.size ⟨#[101,69]⟩ 2 ty HI.out (by decide)
  go_wp2_with fail
  go_ret
  exact⟨rfl,HB.out⟩
theorem WD (c:Int) (w:World) (_:128<=c) (hv:Utf8.valid c=true):Calls prog 172 #[.int .i32 c] w fun e w'=>e=.returned (.bool true)∧w'=w:=by
 rcases(nj c).mp hv with⟨h1,h2⟩|⟨h1,h2⟩
 ·go_enter func172,ntmps172
  go_wp2_with fail
  go_ret
  exact⟨rfl,rfl⟩
 have h3:¬ c<55296:=by omega
 have h4:(57343:Int)<c:=by omega
 go_enter func172,ntmps172
 go_wp2_with fail
 go_ret
 exact⟨rfl,rfl⟩
theorem KW {c:Int} (h:128<=c) (hv:Utf8.valid c=true):(∃a b:UInt8,Utf8.encode c=⟨#[a,b]⟩∧128<=a.toNat∧128<=b.toNat)∨3<=(Utf8.encode c).size:=by
 have hb:bs (enc c)=Utf8.encode c:=nJ _
 rcases(nj c).mp hv with h1|h1
 ·by_cases h2:c<0x800
  ·left
   rw[zw (by omega) h2]at hb
   exact⟨_,_,hb.symm,by rw[bO (by omega)];omega,by rw[bO (by omega)];omega⟩
  right
  rw[<-hb,sO (by omega) (by omega) (by omega),aB];simp
 right
 by_cases h2:c<0x10000
 ·rw[<-hb,sO (by omega) (by omega) (by omega),aB];simp
 rw[<-hb,zx (by omega) (by omega),aB];simp
theorem Z5 (c:Int) (w:World) (h:128<=c) (hne:c≠65533) (hv:Utf8.valid c=true) (hm:c<2147483648):Calls prog 140 #[.string ⟨#[101,69]⟩,.int .i32 c] w fun e w'=>e=.returned (.int .i64 (-1))∧Below w.heap.size w w':=by
 have hvr:=fun W=>WD c W h hv
 have hib:∀ (d:Int) W,Calls prog 81 #[.string ByteArray.empty,.int .u8 d] W fun e w'=>e=.returned (.int .i64 (-1))∧w'=W:=fun d W=>(Any.strings_IndexByte laysIB ByteArray.empty d W)
 have HVR:=h_ hvr;clear hvr
 have IH:=h_ hib;clear hib
 have hne1:(c==65533)=false:=by simpa using hne
 have h128:¬ c<128:=by omega
 have h00:(0:Int)<=c:=by omega
 rcases KW h hv with⟨a,b,he,ha,hb⟩|h3
 ·have a8I:(((69:UInt8).toNat:Int)==(b.toNat:Int))=false:=by
   have:(69:UInt8).toNat=69:=rfl
   rw[beq_eq_false_iff_ne,this];omega
  have Zd:((69:Int)==(b.toNat:Int))=false:=by rw[beq_eq_false_iff_ne];omega
  have ZD:((69:Int) != (b.toNat:Int))=true:=by unfold bne;rw[Zd];rfl
  have hix:((((⟨#[101,69]⟩:ByteArray)[1]'(by decide)).toNat:Int) != (((⟨#[a,b]⟩:ByteArray)[1]'(by exact Nat.lt_of_lt_of_eq (by omega) (show 2=(⟨#[a,b]⟩:ByteArray).size from rfl))).toNat:Int))=true:=ZD
  have hw2:IntKind.i64.wrap 2=2:=by decide
  clear hv h hne ha hb
  go_enter func140,ntmps140
  go_wp2_with (first|(go_at_call 172;refine(HVR.out _).mono ?_;rintro e w2 ⟨rfl,hw⟩;subst hw)|fail)
  refine wp_scope_straight ?_
  go_wp2_with fail
  refine wp_loop_rounds 1 ?_
  rw[rounds_succ]
  go_wp2_with fail
  refine wp_scope_straight ?_
  go_wp2_with fail
  go_quiet (fail)
  have HB3:=h_ (dF (Below.refl w2.heap.size w2) nq)
  generalize w2.drewN nq=w3 at HB3 ⊢
  go_wp2_with fail
  go_quiet ((go_at_call 81;exact Calls.quiet_of_same (IH.out _ _)))
  go_wp2_with fail
  simp only[Exit.noGoto,Exit.inBlock,Exit.then]
  go_ret
  exact⟨rfl,dF HB3.out _⟩
 obtain⟨L,hL⟩:=ap ((Utf8.encode c).size)
 rw[<-hL]at h3
 have hLs:(Utf8.encode c).size=L:=hL.symm
 have Y8:L<=4:=by
  have:=(jT c).2
  unfold enc at this
  rw[de]at this;omega
 have hw1:IntKind.i64.wrap ((L:Int)-1)=(L:Int)-1:=IntWalk.i64_in _ (by omega)
 have hlt:¬ ((L:Int)-1)<2:=by omega
 clear hv h hne hL
 go_enter func140,ntmps140
 go_wp2_with (first|(go_at_call 172;refine(HVR.out _).mono ?_;rintro e w2 ⟨rfl,hw⟩;subst hw)|fail)
 refine wp_scope_straight ?_
 go_wp2_with fail
 refine wp_loop_rounds 1 ?_
 rw[rounds_succ]
 go_wp2_with fail
 simp only[Exit.noGoto,Exit.inBlock]
 go_ret
 exact⟨rfl,Below.refl _ _⟩
def lP (l:Bytes):Int:=if l.dropWhile nE=[]then -1 else((l.takeWhile nE).length:Int)
theorem Ma {A B:Bytes} {x:UInt8} (hp:∀ y∈A,nE y=true) (hx:nE x=false):lP (A++x::B)=(A.length:Int):=by
 unfold lP
 rw[oD (p:=nE) _ hp,sJ (p:=nE) _ hp,im hx,if_neg (by simp),bd (by rw[hx];simp),aV]
theorem Mb {l:Bytes} {p:Nat} (h:p<l.length) (hp:∀ y∈l.take p,nE y=true) (hx:nE (l[p]'h)=false):lP l=(p:Int):=by
 have e:=Ma (B:=l.drop (p+1)) hp hx
 rw[<-List.drop_eq_getElem_cons h,cT,aA]at e
 rw[e]
 omega
theorem GN {l:Bytes} (hp:∀ y∈l,nE y=true):lP l=-1:=by
 have:l.dropWhile nE=[]:=by
  have:=sJ (p:=nE) (d:=l) [] hp
  simpa using this
 unfold lP
 rw[if_pos this]
theorem Tb (x:UInt8):nE x=!(decide (b2 x=101)||decide (b2 x=69)):=l9 (P:=fun x=>nE x=!(decide (b2 x=101)||decide (b2 x=69))) (by decide +kernel) x
theorem nM:∀ l:Bytes,Lib.indexAny l [101,69]=lP l
 | []=>rfl
 |x::r=>by
  have ih:=nM r
  have hge:=Lib.indexAny_ge [101,69] r
  unfold Lib.indexAny
  rw[ih]
  have hc:([101,69]:List UInt8).contains x=!(nE x):=l9 (P:=fun x=>([101,69]:List UInt8).contains x=!(nE x)) (by decide +kernel) x
  rw[hc]
  cases hn:nE x with
  |false =>
   rw[if_pos (show(!false)=true from rfl)]
   unfold lP
   rw[im hn,if_neg (by simp),bd (by rw[hn];simp)]
   rfl
  |true =>
   rw[if_neg (by simp)]
   unfold lP
   rw[bh hn,bo hn]
   by_cases h:r.dropWhile nE=[]
   ·rw[if_pos h,if_pos h];rfl
   rw[if_neg h,if_neg h,if_neg (by simp),ag]
   omega
theorem Rb (n:Int) (w:World) (h:n<=8):Calls prog 173 #[.int .i64 n] w fun e w'=>e=.returned (.bool false)∧w'=w:=by
 refine(Any.strings_shouldUseASCIISet {laysIA with} n w).mono ?_
 rintro e w' ⟨rfl,rfl⟩
 exact⟨by rw[decide_eq_false (by omega)],rfl⟩
theorem GQ (l:Bytes) (w:World) (hl:l.length<=8):Calls prog 141 #[.string (bs l),.string ⟨#[101,69]⟩] w fun e w'=>e=.returned (.int .i64 (lP l))∧Below w.heap.size w w':=by
 obtain⟨R,hR⟩:=ap (lP l)
 rw[<-hR]
 have HR:=h_ hR;clear hR
 have hdd:=qX l
 obtain⟨t,ht⟩:=ap (bs l)
 have hsz:t.size=l.length:=by rw[ht,aB]
 rw[<-ht]at hdd ⊢
 clear ht
 obtain⟨N,hN⟩:=ap (t.size)
 have LP:t.size=N:=hN.symm
 have hN8:(N:Int)<=8:=by omega
 have e7:=h_ (show N=l.length by omega)
 have WJ:=h_ hdd
 have HSU:=h_ (fun W=>Rb (N:Int) W hN8)
 clear hN hsz hdd hl
 go_enter func141,ntmps141
 go_wp2_with (first|(go_at_call 173;refine(HSU.out _).mono ?_;rintro e w2 ⟨rfl,hw⟩;subst w2)|fail)
 go_loopw [9,10] (fun _ _ wr=>∃ p:Nat,p<=N∧Hid (wr.heap[w.heap.size]? = some (.stringIter t p))∧Hid (Below w.heap.size w wr)∧Hid (w.heap.size<wr.heap.size)∧Hid (∀y∈l.take p,nE y=true)) (fun _ _ wr=>N-wr.iterPos w.heap.size)
 case atStart=>exact⟨0,by omega,World.iter_heap _ _ _,(Below.refl _ _).alloc (ae _) _,h_ (by simp[World.iter]),fun y hy=>by simp at hy⟩
 case round =>
  obtain⟨p,hp,HI,HB,HL,HP⟩:=hrel
  by_cases hlt:p<N
  ·have hnx:∀ ty,(Instr.next (.pointer (some ⟨w.heap.size,0,none⟩)) true ty).run prog wr=_:=fun ty=>Lib.run_next_any_at wr w.heap.size t p ty HI.out (by omega)
   have hpl:p<l.length:=by have:=e7.out;omega
   rw[WJ.out p]at hnx
   have hx:=ay hpl
   rw[hx]at hnx
   have hn:=ml l[p] (l.drop (p+1))
   have hr1:=BY (l[p]::l.drop (p+1))
   have hlen:(l.drop (p+1)).length+1=N-p:=by rw[ai];have:=e7.out;omega
   have hasc:=fun(ha:b2 l[p]<0x80)=>UQ (x:=l[p]) (l.drop (p+1)) ha
   have hhi:=fun(ha:0x80<=b2 l[p])=>YR (x:=l[p]) (l.drop (p+1)) ha
   have ZB:=Tb l[p]
   have VB:=iD l[p]
   have hhit:=fun(ha:nE l[p]=false)=>Mb hpl HP.out ha
   have htake:∀ k,1<=k->(∀y∈(l[p]::l.drop (p+1)).take k,nE y=true)->∀ y∈l.take (p+k),nE y=true:=by
    intro k _ h y hy
    rw[<-hx]at h
    rw[List.take_add]at hy
    rcases bl.mp hy with hy|hy
    ·exact HP.out y hy
    exact h y hy
   obtain⟨rn,sz,hD⟩:∃ rn sz,dr (l[p]::l.drop (p+1))=(rn,sz):=⟨_,_,rfl⟩
   rw[hD]at hnx hn hr1 hasc hhi
   simp only at hnx hn hr1 hhi
   have LA:=Lib.iterAt_heap wr w.heap.size t p (p+sz) HI.out
   have Vk:=Lib.iterAt_size wr w.heap.size t (p+sz)
   have EK:=Lib.below_iterAt (HB.out) (k:=w.heap.size) (ae _) t (p+sz)
   obtain⟨wi,hwi⟩:=ap (wr.iterAt w.heap.size t (p+sz))
   rw[<-hwi]at LA Vk EK hnx
   have hpos:wr.iterPos w.heap.size=p:=iterPos_of HI.out
   have hlt2:w.heap.size<wi.heap.size:=by rw[Vk];exact HL.out
   have yK:=h_ LA;clear LA
   have lA:=h_ EK;clear EK Vk
   have FQ:=h_ hpos;clear hpos
   have j5:=h_ hlt2
   clear hwi hD hx HI HB HL HP hlt2
   have hps:p+sz<=N:=by omega
   by_cases ha:b2 l[p]<0x80
   ·have e:=hasc ha
    have e1:rn=l[p].toNat:=congrArg Prod.fst e
    have e2:sz=1:=congrArg Prod.snd e
    subst e2
    have hrb:(rn:Int)=b2 l[p]:=by rw[e1];rfl
    have WL:=h_ (fun W=>VR (rn:Int) W (by omega) (by omega))
    have Jq:=h_ (htake 1 (ae _))
    cases hq:nE l[p]with
    |false =>
     have hR2:R=(p:Int):=by rw[HR.out];exact hhit hq
     have hge:¬ (Ct (rn:Int))<0:=by
      rw[ZB,<-hrb]at hq
      unfold Ct
      by_cases h1:(rn:Int)=101
      ·rw[if_pos h1];omega
      by_cases h2:(rn:Int)=69
      ·rw[if_neg h1,if_pos h2];omega
      simp[h1,h2]at hq
     subst hR2
     generalize Ct (rn:Int)=hv at WL hge
     have LK:(0:Int)<=hv:=by omega
     clear hasc hhi hhit htake ZB hq VB hlen hn e e1 hrb ha Jq
     go_wp2_with (first|(go_at_call 140;refine(WL.out _).mono ?_;rintro e w2 ⟨rfl,hb⟩;have HB2:=h_ hb;clear hb)|fail)
     go_ret
     exact⟨rfl,lA.out.trans (HB2.out.mono (uH j5.out))⟩
    |true =>
     have hge:Ct (rn:Int)=-1:=by
      rw[ZB,<-hrb]at hq
      unfold Ct
      by_cases h1:(rn:Int)=101
      ·simp[h1]at hq
      by_cases h2:(rn:Int)=69
      ·simp[h2]at hq
      rw[if_neg h1,if_neg h2]
     rw[hge]at WL
     have TX:=h_ (Jq.out (fun y hy=>by rw[da.mp (show y ∈ [l[p]]from hy)];exact hq))
     clear hasc hhi hhit htake ZB hq VB hlen hn e e1 hrb ha Jq hge
     go_wp2_with (first|(go_at_call 140;refine(WL.out _).mono ?_;rintro e w2 ⟨rfl,hb⟩;have HB2:=h_ hb;clear hb)|fail)
     go_roundw
     case rel=>exact⟨p+1,by omega,(HB2.out.block _ j5.out).trans yK.out,lA.out.trans (HB2.out.mono (uH j5.out)),aP j5.out HB2.out.size,TX.out⟩
     case measure =>
      have e2:w2.iterPos w.heap.size=p+1:=iterPos_of ((HB2.out.block _ j5.out).trans yK.out)
      rw[e2,FQ.out]
      omega
   obtain⟨h1,h2⟩:=hhi (by omega)
   have Zu:∀ W,Calls prog 140 #[.string ⟨#[101,69]⟩,.int .i32 rn] W fun e w'=>e=.returned (.int .i64 (-1))∧Below W.heap.size W w':=by
    intro W
    rcases h1 with h1|⟨h1,h3⟩
    ·subst h1;exact Mg W
    by_cases h4:rn=65533
    ·subst h4;exact Mg W
    exact Z5 (rn:Int) W (by omega) (by omega) h3 (by omega)
   have WL:=h_ Zu
   have TX:=h_ (htake sz hn.1 (fun y hy=>by
    have:=h2 y hy
    rw[Tb]
    have a1:¬ b2 y=101:=by omega
    have a2:¬ b2 y=69:=by omega
    simp[a1,a2]))
   have hn1:=hn.1
   clear hasc hhi hhit htake ZB VB hlen hn ha h1 h2 Zu
   go_wp2_with (first|(go_at_call 140;refine(WL.out _).mono ?_;rintro e w2 ⟨rfl,hb⟩;have HB2:=h_ hb;clear hb)|fail)
   go_roundw
   case rel=>exact⟨p+sz,by omega,(HB2.out.block _ j5.out).trans yK.out,lA.out.trans (HB2.out.mono (uH j5.out)),aP j5.out HB2.out.size,TX.out⟩
   case measure =>
    have e2:w2.iterPos w.heap.size=p+sz:=iterPos_of ((HB2.out.block _ j5.out).trans yK.out)
    rw[e2,FQ.out]
    omega
  obtain rfl:p=N:=by omega
  have hnx:∀ ty,(Instr.next (.pointer (some ⟨w.heap.size,0,none⟩)) true ty).run prog wr=_:=fun ty=>Lib.run_next_end_at wr w.heap.size t p ty HI.out (by omega)
  have hR2:R=-1:=by
   rw[HR.out]
   refine GN fun y hy=>HP.out y ?_
   rw[aI (by have:=e7.out;omega)]
   exact hy
  subst hR2
  go_wp2_with fail
  go_ret
  exact⟨rfl,HB.out⟩
theorem Qd (l:Bytes) (w:World) (hl:l.length<=1024000000):Calls prog 141 #[.string (bs l),.string (bs [101,69])] w fun e w'=>e=.returned (.int .i64 (lP l))∧Below w.heap.size w w':=by
 by_cases h8:l.length<=8
 ·exact GQ l w h8
 have h116:(prog.info? (laysIA_ren.t 116)).map (fun i=>(i.zero,i.size))=some (some (.agg (Array.replicate 256 (.bool false))),256):=by kernel_rfl
 have h:=Any.strings_IndexAny_long laysIA (zero_of_info h116).1 (zero_of_info h116).2 (bs l) (bs [101,69]) w (by decide) (by rw[aB];omega) (by rw[aB];omega) (by decide)
  (ascii_of_all (by decide))
 rw[show(bs l).data.toList=l from du l,show(bs [101,69]).data.toList=[101,69]from du _,nM]at h
 refine h.mono ?_
 rintro e w' ⟨rfl,rfl⟩
 refine⟨rfl,?_⟩
 have b1:∀ o,Below w.heap.size w (w.alloc o):=fun o=>(Below.refl w.heap.size w).alloc (ae _) o
 exact(b1 _).alloc (b1 _).size _

theorem nk {l:Bytes} {n:Int} (h:cR l=some n):0<=n∧n<=9223372036854775807:=by
 have key:∀ (l:Bytes) (m v:Int),0<=m∧m<=9223372036854775807->jN m l=some v->0<=v∧v<=9223372036854775807:=by
  intro l
  induction l with
  |nil=>intro m v h1 h2;rw[jN]at h2;cases h2;exact h1
  |cons c t ih =>
   intro m v h1 h2
   rw[jN]at h2
   split at h2
   ·cases h2
   next hd =>
   refine ih _ v ?_ h2
   have:=ED (b2 c)
   split <;>omega
 unfold cR at h
 split at h
 ·cases h
 exact key l 0 n (by omega) h
def zI (s:Bytes):Bytes:=if s.head? = some 43 then s.drop 1 else s
theorem pf (s:Bytes) (w:World) (hl:s.length<=1024000000) :
  Calls prog 142 #[.string (bs s)] w fun e w'=>e=.returned (.tuple #[.int .i64 ((rB s).getD 0),.bool (rB s).isSome])∧w'=w:=by
 have hcp:=fun W=>sx s [45] W
 rw[hp1,tp1]at hcp
 by_cases h1:s.head? = some 45
 ·have hcp2:∀ W,Calls prog 95 #[.string (bs s),.string (bs [45])] W fun e w'=>e=.returned (.tuple #[S (s.drop 1),.bool true])∧w'=W:=fun W=>by
   have:=hcp W
   rw[if_pos h1,decide_eq_true h1]at this
   exact this
  have j8:=fun W=>jd (s.drop 1) W (by rw[ai];omega)
  have hE:rB s=if 4<(s.drop 1).length then none else(cR (s.drop 1)).map fun n=>-n:=by unfold rB;rw[if_pos h1]
  rw[hE]
  clear hE hcp h1
  have hml:(s.drop 1).length<=1024000000:=by rw[ai];omega
  generalize s.drop 1=m at *
  obtain⟨t,ht⟩:=ap (bs s)
  obtain⟨u,hu⟩:=ap (bs m)
  have LQ:u.size=m.length:=by rw[hu,aB]
  have Bd:=h_ (show ∀W,Calls prog 95 #[.string t,.string ⟨#[45]⟩] W fun e w'=>e=.returned (.tuple #[.string u,.bool true])∧w'=W from by rw[ht,hu];exact hcp2)
  have nT:=h_ (show ∀W,Calls prog 111 #[.string u] W fun e w'=>e=.returned (.tuple #[.int .i64 ((cR m).getD 0),.bool (cR m).isSome])∧w'=W from by rw[hu];exact j8)
  rw[<-ht]
  clear hcp2 j8 ht hu hl
  obtain⟨N,hN⟩:=ap (u.size)
  have huN:u.size=N:=hN.symm
  rw[<-LQ,huN]
  have pg:N<=1024000000:=by omega
  clear hN LQ hml
  by_cases h4:4<N
  ·rw[if_pos h4]
   have h4i:(4:Int)<(N:Int):=by omega
   go_enter func142,ntmps142
   go_wp2_with (first
    |(go_at_call 95;refine(Bd.out _).mono ?_;rintro e w2 ⟨rfl,hw⟩;subst hw)
    |fail)
   go_ret2
   exact⟨rfl,rfl⟩
  rw[if_neg h4]
  have h4i:¬ (4:Int)<(N:Int):=by omega
  cases hR:cR m with
  |none =>
   have HW2:=h_ (show ∀W,Calls prog 111 #[.string u] W fun e w'=>e=.returned (.tuple #[.int .i64 0,.bool false])∧w'=W from fun W=>by have:=nT.out W;rw[hR]at this;exact this)
   clear hR nT
   go_enter func142,ntmps142
   go_wp2_with (first
    |(go_at_call 95;refine(Bd.out _).mono ?_;rintro e w2 ⟨rfl,hw⟩;subst hw)
    |(go_at_call 111;refine(HW2.out _).mono ?_;rintro e w2 ⟨rfl,hw⟩;subst hw)
    |fail)
   go_ret2
   exact⟨rfl,rfl⟩
  |some n =>
   have hlim:=nk hR
   have hng:IntKind.i64.wrap (-n)=-n:=IntWalk.i64_in _ (by omega)
   have HW2:=h_ (show ∀W,Calls prog 111 #[.string u] W fun e w'=>e=.returned (.tuple #[.int .i64 n,.bool true])∧w'=W from fun W=>by have:=nT.out W;rw[hR]at this;exact this)
   clear hR nT
   go_enter func142,ntmps142
   go_wp2_with (first
    |(go_at_call 95;refine(Bd.out _).mono ?_;rintro e w2 ⟨rfl,hw⟩;subst hw)
    |(go_at_call 111;refine(HW2.out _).mono ?_;rintro e w2 ⟨rfl,hw⟩;subst hw)
    |fail)
   go_ret2
   exact⟨rfl,rfl⟩
 have hcp2:∀ W,Calls prog 95 #[.string (bs s),.string (bs [45])] W fun e w'=>e=.returned (.tuple #[S s,.bool false])∧w'=W:=fun W=>by
  have:=hcp W
  rw[if_neg h1,decide_eq_false h1]at this
  exact this
 have htp:=fun W=>Wu s [43] W
 rw[tp1]at htp
 have hE:rB s=if 4<(zI s).length then none else cR (zI s):=by unfold rB zI;rw[if_neg h1]
 have ZV:∀ W,Calls prog 174 #[.string (bs s),.string (bs [43])] W fun e w'=>e=.returned (S (zI s))∧w'=W:=htp
 have hml:(zI s).length<=1024000000:=by
  unfold zI
  split
  ·rw[ai];omega
  exact hl
 have j8:=fun W=>jd (zI s) W hml
 rw[hE]
 clear hE hcp h1 htp
 generalize zI s=m at *
 obtain⟨t,ht⟩:=ap (bs s)
 obtain⟨u,hu⟩:=ap (bs m)
 have LQ:u.size=m.length:=by rw[hu,aB]
 have Bd:=h_ (show ∀W,Calls prog 95 #[.string t,.string ⟨#[45]⟩] W fun e w'=>e=.returned (.tuple #[.string t,.bool false])∧w'=W from by rw[ht];exact hcp2)
 have WT:=h_ (show ∀W,Calls prog 174 #[.string t,.string ⟨#[43]⟩] W fun e w'=>e=.returned (.string u)∧w'=W from by rw[ht,hu];exact ZV)
 have nT:=h_ (show ∀W,Calls prog 111 #[.string u] W fun e w'=>e=.returned (.tuple #[.int .i64 ((cR m).getD 0),.bool (cR m).isSome])∧w'=W from by rw[hu];exact j8)
 rw[<-ht]
 clear hcp2 j8 ZV ht hu hl
 obtain⟨N,hN⟩:=ap (u.size)
 have huN:u.size=N:=hN.symm
 rw[<-LQ,huN]
 have pg:N<=1024000000:=by omega
 clear hN LQ hml
 by_cases h4:4<N
 ·rw[if_pos h4]
  have h4i:(4:Int)<(N:Int):=by omega
  go_enter func142,ntmps142
  go_wp2_with (first
   |(go_at_call 95;refine(Bd.out _).mono ?_;rintro e w2 ⟨rfl,hw⟩;subst hw)
   |(go_at_call 174;refine(WT.out _).mono ?_;rintro e w2 ⟨rfl,hw⟩;subst hw)
   |fail)
  go_ret2
  exact⟨rfl,rfl⟩
 rw[if_neg h4]
 have h4i:¬ (4:Int)<(N:Int):=by omega
 generalize cR m=R at *
 go_enter func142,ntmps142
 go_wp2_with (first
  |(go_at_call 95;refine(Bd.out _).mono ?_;rintro e w2 ⟨rfl,hw⟩;subst hw)
  |(go_at_call 174;refine(WT.out _).mono ?_;rintro e w2 ⟨rfl,hw⟩;subst hw)
  |(go_at_call 111;refine(nT.out _).mono ?_;rintro e w2 ⟨rfl,hw⟩;subst hw)
  |fail)
 go_ret2
 exact⟨rfl,rfl⟩

def qI (q:Bool) (p:Option (Int×Int)):Nat×Bool:=match p with
 |none=>(0,false)
 |some p=>(qr ⟨q,p.1,p.2⟩,true)
def zK (s:Bytes):Nat×Bool:=match Lm s with
 |none=>(0,false)
 |some f=>(qr f,true)
theorem PI (s:Bytes):zK s=qI (decide (s.head? = some 45)) (sZ (if s.head? = some 45 then s.drop 1 else s)):=by
 unfold zK Lm qI
 by_cases h:s.head? = some 45
 ·rw[if_pos h,if_pos h,decide_eq_true h]
  cases sZ (s.drop 1) <;>rfl
 rw[if_neg h,if_neg h,decide_eq_false h]
 cases sZ s <;>rfl
theorem NP {t:Bytes} {e:UInt8} {u:Bytes} (h:t.dropWhile nE=e::u):t.take (t.takeWhile nE).length=t.takeWhile nE∧t.drop ((t.takeWhile nE).length+1)=u∧(t.takeWhile nE).length<t.length:=by
 have e1:t.takeWhile nE++t.dropWhile nE=t:=ft
 rw[h]at e1
 generalize t.takeWhile nE=A at *
 subst e1
 refine⟨jg rfl,?_,by rw[af,ag];omega⟩
 rw[show A++e::u=(A++[e])++u by simp]
 exact RX (by simp)
theorem PJ {x w1 w2:Bytes} {pt:Bool} {m:Int} (h:bR 46 x=(w1,w2,pt)):GB x m=if(pt=true∧w2=[])∨15<w1.length+w2.length then none
 else match cR (w1++w2)with
  |none=>none
  |some n=>if m-(w2.length:Int) < -22∨22<m-(w2.length:Int)then none else some (n,m-(w2.length:Int)):=by
 unfold GB
 simp only[h]
 rfl
theorem zf (c:UInt8):∀ (s:Bytes),(bR c s).1.length+(bR c s).2.1.length<=s.length
 | []=>ae _
 |x::r=>by
  have ih:=zf c r
  unfold bR
  split <;>(simp only[ag,aQ];omega)
theorem FA {l:Bytes} {n:Int} (h:cR l=some n) (hl:l.length<=4):n<=9999:=by
 have key:∀ (l:Bytes) (m v:Int) (k:Nat),l.length=k->k<=4->0<=m->m<=10 ^ (4-k)-1->jN m l=some v->v<=9999:=by
  intro l
  induction l with
  |nil=>intro m v k h1 h2 h3 h4 h5;rw[jN]at h5;cases h5;simp at h1;subst h1;simpa using h4
  |cons c t ih =>
   intro m v k h1 h2 h3 h4 h5
   rw[jN]at h5
   rw[ag]at h1
   split at h5
   ·cases h5
   next hd =>
   have hq:=ED (b2 c)
   have hp:m<=9999:=by
    have:k=1∨k=2∨k=3∨k=4:=by omega
    rcases this with rfl|rfl|rfl|rfl <;>(simp at h4;omega)
   rw[if_neg (by omega)]at h5
   refine ih _ v (k-1) (by omega) (by omega) (by omega) ?_ h5
   have:k=1∨k=2∨k=3∨k=4:=by omega
   rcases this with rfl|rfl|rfl|rfl <;>(simp at h4 ⊢;omega)
 unfold cR at h
 split at h
 ·cases h
 exact key l 0 n l.length rfl hl (by omega) (by
  have:l.length=0∨l.length=1∨l.length=2∨l.length=3∨l.length=4:=by omega
  rcases this with h|h|h|h|h <;>rw[h] <;>decide) h
theorem Pz {s:Bytes} {n:Int} (h:rB s=some n):-9999<=n∧n<=9999:=by
 have key:∀ {l:Bytes} {v:Int},(if 4<l.length then none else cR l)=some v->0<=v∧v<=9999:=by
  intro l v h
  split at h
  ·cases h
  next h4=>exact⟨(nk h).1,FA h (by omega)⟩
 unfold rB at h
 by_cases h1:s.head? = some 45
 ·rw[if_pos h1]at h
  split at h
  ·cases h
  next h4 =>
  rw[eD]at h
  obtain⟨v,h2,rfl⟩:=h
  have:=nk h2
  have:=FA h2 (by omega)
  omega
 rw[if_neg h1]at h
 have:=key h
 omega
theorem Qw {P:Program} (W:World) (x:Nat):(Op.unary .neg (.float .f64 x)).run P W=.ok (.float .f64 (Op.negFloat .f64 x)) W:=rfl
theorem MK (n:Int) {m:Int} (h:-22<=m∧m<=22) (W:World):Calls prog 143 #[.float .f64 (floatOfInt .f64 n),.int .i64 m] W fun e w'=>e=.returned (.float .f64 (moveB (floatOfInt .f64 n) m))∧w'=W:=ML _ m W (VQ n) h.1 h.2
theorem GC (s:Bytes) (w:World) (hl:s.length<=1024000000) (hE:Env w) :
  Calls prog 112 #[.string (bs s)] w fun e w'=>e=.returned (.tuple #[.float .f64 (zK s).1,.bool (zK s).2])∧Below w.heap.size w w':=by
 rw[PI]
 have hcp:=fun W=>sx s [45] W
 rw[hp1,tp1]at hcp
 have hxl:(if s.head? = some 45 then s.drop 1 else s).length<=1024000000:=by
  split
  ·rw[ai];omega
  exact hl
 generalize (if s.head? = some 45 then s.drop 1 else s)=a at *
 generalize decide (s.head? = some 45)=q at *
 have hia:=fun W=>Qd a W hxl
 obtain⟨t0,ht0⟩:=ap (bs s)
 obtain⟨t,ht⟩:=ap (bs a)
 have Bd:=h_ (show ∀W,Calls prog 95 #[.string t0,.string ⟨#[45]⟩] W fun e w'=>e=.returned (.tuple #[.string t,.bool q])∧w'=W from by rw[ht0,ht];exact hcp)
 have xM:∀ W,Calls prog 141 #[.string t,.string ⟨#[101,69]⟩] W fun e w'=>e=.returned (.int .i64 (lP a))∧Below W.heap.size W w':=by rw[ht];exact hia
 rw[<-ht0]
 clear hcp hia ht0 hl
 have VG:t.size=a.length:=by rw[ht,aB]
 have hcase:(a.dropWhile nE=[])∨(∃e u,a.dropWhile nE=e::u∧rB u=none)∨(∃e u m,a.dropWhile nE=e::u∧rB u=some m):=by
  cases h:a.dropWhile nE with
  |nil=>exact .inl rfl
  |cons e u =>
   cases h2:rB u with
   |none=>exact .inr (.inl ⟨e,u,rfl,h2⟩)
   |some m=>exact .inr (.inr ⟨e,u,m,rfl,h2⟩)
 rcases hcase with hA|⟨e0,u,hB,hB2⟩|⟨e0,u,M,hC,hC2⟩
 case inr.inl =>
  have hR:qI q (sZ a)=(0,false):=by unfold sZ;rw[hB];simp only[hB2];rfl
  rw[hR]
  obtain⟨k1,k2,k3⟩:=NP hB
  obtain⟨K,hK⟩:=ap ((a.takeWhile nE).length)
  rw[<-hK]at k1 k2 k3
  have hix:lP a=(K:Int):=by unfold lP;rw[hB,if_neg (by simp),hK]
  rw[hix]at xM
  have Qc:u.length<=1024000000:=by rw[<-k2,ai];omega
  have hex:=fun W=>pf u W Qc
  rw[hB2]at hex
  obtain⟨N,hN⟩:=ap (t.size)
  have LP:t.size=N:=hN.symm
  obtain⟨K1,hK1e⟩:=ap (K+1)
  have hcut:t.extract K1 N=bs u:=by rw[hK1e,ht,gn a (K+1) N (by omega),k2]
  obtain⟨tu,htu⟩:=ap (bs u)
  rw[<-htu]at hcut hex
  have yK:=h_ xM
  have IE:=h_ hex
  have hKN:K<N:=by omega
  have pg:N<=1024000000:=by omega
  have hw1:IntKind.i64.wrap ((K:Int)+1)=(K1:Int):=by rw[IntWalk.i64_in _ (by omega)];omega
  have hK1:K1<=N:=by omega
  clear hK1e
  clear hix xM hex hB hB2 hR k1 k2 k3 hK Qc htu ht VG hxl hN
  go_enter func112,ntmps112
  go_wp2_with (first
   |(go_at_call 95;refine(Bd.out _).mono ?_;rintro e w2 ⟨rfl,hw⟩;subst w2)
   |(go_at_call 141;refine(yK.out _).mono ?_;rintro e wi ⟨rfl,hb⟩;have xe:=h_ hb;clear hb)
   |(go_at_call 142;refine(IE.out _).mono ?_;rintro e w2 ⟨rfl,hw⟩;subst w2)
   |fail)
  go_ret2
  exact⟨rfl,xe.out⟩
 case' inl =>
  obtain⟨M,hM⟩:∃ M:Int,M=0:=⟨0,rfl⟩
  have hMl:-9999<=M∧M<=9999:=by omega
  have hR:qI q (sZ a)=qI q (GB a M):=by unfold sZ;rw[hA,hM]
  have HM0:=h_ hM
  clear hM
  have hix:lP a=-1:=by unfold lP;rw[if_pos hA]
  rw[hR]
  rw[hix]at xM
  have yK:=h_ xM
  obtain⟨x,hx⟩:=ap (a)
  obtain⟨T,hT⟩:=ap (t)
  have FR:=h_ (show T=bs x by rw[hT,hx,ht])
  have Z1:x.length<=1024000000:=by rw[hx];exact hxl
  rw[<-hx]
  rw[<-hT]at yK Bd
  clear hR hix xM hA ht VG hxl hx hT
  go_enter func112,ntmps112
  go_upto_region 9 with(first
   |(go_at_call 95;refine(Bd.out _).mono ?_;rintro e w2 ⟨rfl,hw⟩;subst w2)
   |(go_at_call 141;refine(yK.out _).mono ?_;rintro e wi ⟨rfl,hb⟩;have xe:=h_ hb;clear hb)
   |(go_at_call 142;refine(IE.out _).mono ?_;rintro e w2 ⟨rfl,hw⟩;subst w2)
   |fail)
 case' inr.inr =>
  obtain⟨k1,k2,k3⟩:=NP hC
  have hR:qI q (sZ a)=qI q (GB (a.takeWhile nE) M):=by unfold sZ;rw[hC];simp only[hC2]
  rw[hR]
  obtain⟨x,hx⟩:=ap (a.takeWhile nE)
  rw[<-hx]at k1 k2 k3 ⊢
  obtain⟨K,hK⟩:=ap (x.length)
  rw[<-hK]at k1 k2 k3
  have hix:lP a=(K:Int):=by unfold lP;rw[hC,if_neg (by simp),<-hx,hK]
  rw[hix]at xM
  have Qc:u.length<=1024000000:=by rw[<-k2,ai];omega
  have hex:=fun W=>pf u W Qc
  rw[hC2]at hex
  have hMl:=Pz hC2
  obtain⟨N,hN⟩:=ap (t.size)
  have LP:t.size=N:=hN.symm
  obtain⟨K1,hK1e⟩:=ap (K+1)
  have hcut:t.extract K1 N=bs u:=by rw[hK1e,ht,gn a (K+1) N (by omega),k2]
  obtain⟨T,hT⟩:=ap (bs x)
  have a6r:t.extract 0 K=T:=by rw[ht,ql,k1,hT]
  have FR:=h_ hT
  obtain⟨tu,htu⟩:=ap (bs u)
  rw[<-htu]at hcut hex
  have yK:=h_ xM
  have IE:=h_ (show ∀W,Calls prog 142 #[.string tu] W fun e w'=>e=.returned (.tuple #[.int .i64 M,.bool true])∧w'=W from hex)
  have hKN:K<N:=by omega
  have pg:N<=1024000000:=by omega
  have Z1:x.length<=1024000000:=by omega
  have hw1:IntKind.i64.wrap ((K:Int)+1)=(K1:Int):=by rw[IntWalk.i64_in _ (by omega)];omega
  have hK1:K1<=N:=by omega
  clear hK1e
  have Xc:K<=N:=by omega
  clear hix xM hex hC hC2 hR k1 k2 k3 hx hK Qc htu ht VG hxl hN hT
  go_enter func112,ntmps112
  go_upto_region 9 with(first
   |(go_at_call 95;refine(Bd.out _).mono ?_;rintro e w2 ⟨rfl,hw⟩;subst w2)
   |(go_at_call 141;refine(yK.out _).mono ?_;rintro e wi ⟨rfl,hb⟩;have xe:=h_ hb;clear hb)
   |(go_at_call 142;refine(IE.out _).mono ?_;rintro e w2 ⟨rfl,hw⟩;subst w2)
   |fail)
 all_goals
  have hTx:=FR.out
  obtain⟨p1,p2,pt,hcut⟩:∃ a b c,bR 46 x=(a,b,c):=⟨_,_,_,rfl⟩
  have hcl:=zf 46 x
  rw[hcut]at hcl
  simp only at hcl
  have hf:=PJ (m:=M) hcut
  have hsc:=fun W (hb:Below w.heap.size w W)=>gy x [46] W Z1 (hE.below hb)
  rw[z7,hcut]at hsc
  simp only at hsc
  have j8:=fun W=>jd (p1++p2) W (by rw[af];omega)
  have rC:=gO p1 p2
  obtain⟨U,hU⟩:=ap (bs (p1++p2))
  rw[<-hU]at j8 rC
  obtain⟨U1,hU1⟩:=ap (bs p1)
  obtain⟨U2,Zb⟩:=ap (bs p2)
  have hs1:U1.size=p1.length:=by rw[hU1,aB]
  have hs2:U2.size=p2.length:=by rw[Zb,aB]
  have hemp:U2.toList=[] ↔ p2=[]:=by rw[Zb,au]
  have rJ:=h_ (show ∀W,Below w.heap.size w W->Calls prog 68 #[.string T,.string ⟨#[46]⟩] W fun e w'=>e=.returned (.tuple #[.string U1,.string U2,.bool pt])∧Below W.heap.size W w' from by rw[hTx,hU1,Zb];exact hsc)
  rw[<-hU1,<-Zb]at rC
  clear hsc hU hU1 Zb hcut hTx
  obtain⟨N1,hN1⟩:=ap (U1.size)
  obtain⟨N2,Y9⟩:=ap (U2.size)
  have a3Q:U1.size=N1:=hN1.symm
  have a3R:U2.size=N2:=Y9.symm
  rw[<-hs1,<-hs2,a3Q,a3R]at hf
  have mW:N1<=1024000000∧N2<=1024000000:=by omega
  have hsum:IntKind.i64.wrap ((N1:Int)+(N2:Int))=(N1:Int)+(N2:Int):=IntWalk.i64_in _ (by omega)
  have hcz:¬ 9223372036854775807<N1+N2:=by omega
  have hcz2:¬ 9223372036854775807<U1.size+U2.size:=by omega
  obtain⟨K,hK⟩:∃ K:Int,K=M-(N2:Int):=⟨_,rfl⟩
  have hwk:IntKind.i64.wrap (M-(N2:Int))=K:=by rw[hK];exact IntWalk.i64_in _ (by omega)
  have ZY:IntKind.i64.wrap (-(N2:Int))=-(N2:Int):=IntWalk.i64_in _ (by omega)
  have ZZ:M-(N2:Int)=K:=hK.symm
  rw[<-hK]at hf
  try (have hM:=HM0.out;subst hM;have a9i:-(N2:Int)=K:=by omega)
  clear hcl hs1 hs2 hN1 Y9 hK
  by_cases hz:pt=true∧p2=[]
  ·rw[if_pos (.inl hz)]at hf
   obtain⟨rfl,hz2⟩:=hz
   have he:=hemp.mpr hz2
   have he1:U2.toList.isEmpty=true:=by simpa using he
   have HF:=h_ (congrArg (qI q) hf)
   clear hf hemp hz2 j8 rC hsum hcz hcz2 hwk ZY ZZ
   go_wp2_with (first
    |(go_at_call 68;refine(rJ.out _ xe.out).mono ?_;rintro e w5 ⟨rfl,hb⟩;have fK:=h_ (fJ xe.out hb);clear hb)
    |fail)
   all_goals
    go_ret2
    exact⟨by rw[HF.out];rfl,fK.out⟩
  have hpt:pt=false∨(pt=true∧p2 ≠ []):=by
   cases pt with
   |false=>exact .inl rfl
   |true=>exact .inr ⟨rfl,fun h=>hz ⟨rfl,h⟩⟩
  have hpe:pt=true->(¬U2.toList=[]∧U2.toList.isEmpty=false):=fun h=>by
   have h1:¬ U2.toList=[]:=fun h2=>hz ⟨h,hemp.mp h2⟩
   exact⟨h1,by simpa using h1⟩
  have Cv:pt=false∨(pt=true∧¬ U2.toList=[]∧U2.toList.isEmpty=false):=by
   rcases hpt with h|⟨h,_⟩
   ·exact .inl h
   exact .inr ⟨h,hpe h⟩
  clear hpe hpt hemp
  by_cases h15:15<N1+N2
  ·rw[if_pos (.inr h15)]at hf
   have HF:=h_ (congrArg (qI q) hf)
   have a3F:(15:Int)<(N1:Int)+(N2:Int):=by omega
   clear hf hz j8 rC hwk ZY ZZ h15
   rcases Cv with rfl|⟨rfl,he,he1⟩ <;>
   ·go_wp2_with (first
     |(go_at_call 68;refine(rJ.out _ xe.out).mono ?_;rintro e w5 ⟨rfl,hb⟩;have fK:=h_ (fJ xe.out hb);clear hb)
     |fail)
    all_goals
     go_ret2
     exact⟨by rw[HF.out];rfl,fK.out⟩
  rw[if_neg (fun h=>h.elim hz h15)]at hf
  have a3F:¬ (15:Int)<(N1:Int)+(N2:Int):=by omega
  clear hz h15
  cases hR:cR (p1++p2)with
  |none =>
   rw[hR]at hf j8
   have nT:=h_ (show ∀W,Calls prog 111 #[.string U] W fun e w'=>e=.returned (.tuple #[.int .i64 0,.bool false])∧w'=W from j8)
   have HF:=h_ (congrArg (qI q) hf)
   clear hf j8 hR
   rcases Cv with rfl|⟨rfl,he,he1⟩ <;>
   ·go_wp2_with (first
     |(go_at_call 68;refine(rJ.out _ xe.out).mono ?_;rintro e w5 ⟨rfl,hb⟩;have fK:=h_ (fJ xe.out hb);clear hb)
     |(go_at_call 111;refine(nT.out _).mono ?_;rintro e w6 ⟨rfl,hw⟩;subst w6)
     |fail)
    all_goals
     go_ret2
     exact⟨by rw[HF.out];rfl,fK.out⟩
  |some n =>
   rw[hR]at hf j8
   simp only at hf
   have nT:=h_ (show ∀W,Calls prog 111 #[.string U] W fun e w'=>e=.returned (.tuple #[.int .i64 n,.bool true])∧w'=W from j8)
   have hn0:=nk hR
   clear j8 hR
   by_cases hr:K < -22∨22<K
   ·rw[if_pos hr]at hf
    have HF:=h_ (congrArg (qI q) hf)
    clear hf
    rcases hr with h1|h1
    ·rcases Cv with rfl|⟨rfl,he,he1⟩ <;>
     ·go_wp2_with (first
       |(go_at_call 68;refine(rJ.out _ xe.out).mono ?_;rintro e w5 ⟨rfl,hb⟩;have fK:=h_ (fJ xe.out hb);clear hb)
       |(go_at_call 111;refine(nT.out _).mono ?_;rintro e w6 ⟨rfl,hw⟩;subst w6)
       |fail)
      all_goals
       go_ret2
       exact⟨by rw[HF.out];rfl,fK.out⟩
    have h2:¬ K < -22:=by omega
    rcases Cv with rfl|⟨rfl,he,he1⟩ <;>
    ·go_wp2_with (first
      |(go_at_call 68;refine(rJ.out _ xe.out).mono ?_;rintro e w5 ⟨rfl,hb⟩;have fK:=h_ (fJ xe.out hb);clear hb)
      |(go_at_call 111;refine(nT.out _).mono ?_;rintro e w6 ⟨rfl,hw⟩;subst w6)
      |fail)
     all_goals
      go_ret2
      exact⟨by rw[HF.out];rfl,fK.out⟩
   rw[if_neg hr]at hf
   have h2:¬ K < -22:=by omega
   have h3:¬ (22:Int)<K:=by omega
   have HMV:=h_ (fun W=>MK n (m:=K) (by omega) W)
   have HF:=h_ (show qI q _=(qr ⟨q,n,K⟩,true)from congrArg (qI q) hf)
   clear hf hr
   obtain⟨F,hF⟩:=ap (moveB (floatOfInt .f64 n) K)
   rw[<-hF]at HMV
   have hfl:qr ⟨q,n,K⟩=if q=true∧n≠0 then Op.negFloat .f64 F else F:=by unfold qr;rw[hF]
   have xg:=h_ hfl
   clear hfl hF
   cases q with
   |false =>
    rcases Cv with rfl|⟨rfl,he,he1⟩ <;>
    ·go_wp2_with (first
      |(go_at_call 68;refine(rJ.out _ xe.out).mono ?_;rintro e w5 ⟨rfl,hb⟩;have fK:=h_ (fJ xe.out hb);clear hb)
      |(go_at_call 111;refine(nT.out _).mono ?_;rintro e w6 ⟨rfl,hw⟩;subst w6)
      |(go_at_call 143;refine(HMV.out _).mono ?_;rintro e w6 ⟨rfl,hw⟩;subst w6)
      |fail)
     all_goals
      go_ret2
      exact⟨by rw[HF.out,xg.out,if_neg (by simp)];rfl,fK.out⟩
   |true =>
    by_cases hn:n=0
    ·subst hn
     rcases Cv with rfl|⟨rfl,he,he1⟩ <;>
     ·go_wp2_with (first
       |(go_at_call 68;refine(rJ.out _ xe.out).mono ?_;rintro e w5 ⟨rfl,hb⟩;have fK:=h_ (fJ xe.out hb);clear hb)
       |(go_at_call 111;refine(nT.out _).mono ?_;rintro e w6 ⟨rfl,hw⟩;subst w6)
       |(go_at_call 143;refine(HMV.out _).mono ?_;rintro e w6 ⟨rfl,hw⟩;subst w6)
       |fail)
      all_goals
       go_ret2
       exact⟨by rw[HF.out,xg.out,if_neg (by simp)];rfl,fK.out⟩
    have hnb:(n != 0)=true:=by simpa using hn
    have hng:=fun(W:World)=>Qw (P:=prog) W F
    have yO:=h_ hn
    rcases Cv with rfl|⟨rfl,he,he1⟩ <;>
    ·go_wp2_with (first
      |(go_at_call 68;refine(rJ.out _ xe.out).mono ?_;rintro e w5 ⟨rfl,hb⟩;have fK:=h_ (fJ xe.out hb);clear hb)
      |(go_at_call 111;refine(nT.out _).mono ?_;rintro e w6 ⟨rfl,hw⟩;subst w6)
      |(go_at_call 143;refine(HMV.out _).mono ?_;rintro e w6 ⟨rfl,hw⟩;subst w6)
      |fail)
     all_goals
      go_ret2
      exact⟨by rw[HF.out,xg.out,if_pos (by simpa using yO.out)];rfl,fK.out⟩

def aY (wv:Value) (c:dm):Array Value:=#[S c.url,wv,.bool c.hw,.int .i64 c.w,.bool c.hh,.int .i64 c.h,.bool c.hd,.float .f64 c.d]
theorem Qi {l:Bytes} (h:l ≠ []):∃ m x,l=m++[x]:=⟨l.dropLast,l.getLast h,(RW h).symm⟩
theorem DM (c:dm) (m:Bytes) (x:UInt8):mI c (m++[x])=if x=119 then(match cR m with
   |none=>none
   |some n=>if n<1∨c.hw=true∨c.hd=true then none else some {c with hw:=true,w:=n})
  else if x=104 then(match cR m with
   |none=>none
   |some n=>if n<1∨c.hh=true∨c.hd=true then none else some {c with hh:=true,h:=n})
  else if x=120 then(match Lm m with
   |none=>none
   |some f=>if geB (qr f)=false∨c.hw=true∨c.hh=true∨c.hd=true then none else some {c with hd:=true,d:=qr f})
  else none:=by
 unfold mI
 rw[lU]
 dsimp only
 rw[a9H]
 rfl
theorem y4 (x:UInt8) (k:Nat) (h:k<256):(b2 x=(k:Int)) ↔ x=UInt8.ofNat k:=by
 constructor
 ·intro e
  have:x.toNat=k:=by unfold b2 at e;omega
  rw[<-this,cC]
 rintro rfl
 unfold b2
 rw[bO h]
theorem Ap {P:Program} (W:World) (a:Addr) (b:Nat) (m:Mode):(store a (.float .f64 b) m).run P W=stored P W a (.float .f64 b) m:=run_store P W a _ m rfl
theorem NJ (g:Nat) (wv:Value) (c:dm) (word:Bytes) (w:World) (hl:word.length<=1024000000) (i:CB w g 45 (aY wv c)) (hE:Env w) :
  Calls prog 79 #[.pointer (some ⟨g,0,none⟩),.string (bs word)] w fun e w' =>
   e=.returned (.bool (mI c word).isSome)∧CB w' g 45 (aY wv ((mI c word).getD c))∧Fk (fun j=>j=g) w w':=by
 by_cases h0:word=[]
 ·subst h0
  have hI:=h_ i
  obtain⟨t,ht⟩:=ap (bs [])
  have he:t.toList=[]:=by rw[ht,au]
  have he1:t.toList.isEmpty=true:=by rw[he];rfl
  rw[<-ht]
  clear ht i hE hl
  go_enter func79,ntmps79
  go_wp2_with fail
  go_ret
  exact⟨rfl,hI.out,Fk.refl _ _⟩
 obtain⟨m,x,rfl⟩:=Qi h0
 obtain⟨R,hR⟩:=ap (mI c (m++[x]))
 rw[<-hR]
 rw[DM]at hR
 obtain⟨K,hK⟩:=ap (m.length)
 rw[af,kO,<-hK]at hl
 obtain⟨t,ht⟩:=ap (bs (m++[x]))
 have hsz:t.size=K+1:=by rw[ht,aB,af,hK];rfl
 have lV:K<t.size:=by omega
 have hx:((t[K]'lV).toNat:Int)=b2 x:=by
  rw[bV ht lV (by rw[af,<-hK];simp)]
  simp[hK]
 have hex:t.extract 0 K=bs m:=by rw[ht,ql,hK,jg rfl]
 have he:¬ t.toList=[]:=by rw[ht,au];simp
 have he1:t.toList.isEmpty=false:=by simpa using he
 obtain⟨u,hu⟩:=ap (bs m)
 rw[<-hu]at hex
 rw[<-ht]
 have HUM:=h_ hu
 clear ht hu h0
 obtain⟨N,hN⟩:=ap (t.size)
 have LP:t.size=N:=hN.symm
 have hw1:IntKind.i64.wrap ((N:Int)-1)=(K:Int):=by rw[IntWalk.i64_in _ (by omega)];omega
 have hKN:K<=N:=by omega
 have pg:N<=1024000000:=by omega
 have Y7:m.length<=1024000000:=by omega
 have G7:=y4 x 119 (by omega)
 have G6:=y4 x 104 (by omega)
 have G9:=y4 x 120 (by omega)
 clear hsz hN hl hK
 have hI:=h_ i
 have f2:=i.s6 2
 have f3:=i.s6 3
 have f4:=i.s6 4
 have f5:=i.s6 5
 have f6:=i.s6 6
 have f7:=i.s6 7
 have c2:=i.ak (j:=2) (v:=.bool c.hw) rfl
 have c3:=i.ak (j:=3) (v:=.int .i64 c.w) rfl
 have c4:=i.ak (j:=4) (v:=.bool c.hh) rfl
 have c5:=i.ak (j:=5) (v:=.int .i64 c.h) rfl
 have c6:=i.ak (j:=6) (v:=.bool c.hd) rfl
 have c7:=i.ak (j:=7) (v:=.float .f64 c.d) rfl
 clear i
 by_cases h119:x=119
 ·rw[if_pos h119]at hR
  have hX:b2 x=119:=G7.mpr (by rw[h119];rfl)
  rw[hX]at hx
  clear G7 G6 G9 hX h119
  have j8:=fun W=>jd m W Y7
  rw[<-HUM.out]at j8
  cases hW:cR m with
  |none =>
   rw[hW]at hR j8
   have nT:=h_ (show ∀W,Calls prog 111 #[.string u] W fun e w'=>e=.returned (.tuple #[.int .i64 0,.bool false])∧w'=W from j8)
   have HR:=h_ (show R=none from hR)
   clear hR j8 hW hE
   go_enter func79,ntmps79
   go_wp2_with (first
     |(go_at_call 111;refine(nT.out _).mono ?_;rintro e w6 ⟨rfl,hw⟩;subst w6)
     |fail)
   go_ret
   rw[HR.out]
   exact⟨rfl,hI.out,Fk.refl _ _⟩
  |some n =>
   rw[hW]at hR j8
   have nT:=h_ (show ∀W,Calls prog 111 #[.string u] W fun e w'=>e=.returned (.tuple #[.int .i64 n,.bool true])∧w'=W from j8)
   replace hR:R=if n<1∨c.hw=true∨c.hd=true then none else some {c with hw:=true,w:=n}:=hR
   clear j8 hW hE
   by_cases hn:n<1
   ·have HR:=h_ (show R=none by rw[hR,if_pos (.inl hn)])
    clear hR
    go_enter func79,ntmps79
    go_wp2_with (first
     |(go_at_call 111;refine(nT.out _).mono ?_;rintro e w6 ⟨rfl,hw⟩;subst w6)
     |fail)
    go_ret
    rw[HR.out]
    exact⟨rfl,hI.out,Fk.refl _ _⟩
   cases hfa:c.hw with
   |true =>
    rw[hfa]at c2
    have HR:=h_ (show R=none by rw[hR,if_pos (.inr (.inl hfa))])
    clear hR hfa
    go_enter func79,ntmps79
    go_wp2_with (first
     |(go_at_call 111;refine(nT.out _).mono ?_;rintro e w6 ⟨rfl,hw⟩;subst w6)
     |fail)
    go_ret
    rw[HR.out]
    exact⟨rfl,hI.out,Fk.refl _ _⟩
   |false =>
    rw[hfa]at c2
    cases GK:c.hd with
    |true =>
     rw[GK]at c6
     have HR:=h_ (show R=none by rw[hR,if_pos (.inr (.inr GK))])
     clear hR hfa GK
     go_enter func79,ntmps79
     go_wp2_with (first
     |(go_at_call 111;refine(nT.out _).mono ?_;rintro e w6 ⟨rfl,hw⟩;subst w6)
     |fail)
     go_ret
     rw[HR.out]
     exact⟨rfl,hI.out,Fk.refl _ _⟩
    |false =>
     rw[GK]at c6
     have HR:=h_ (show R=some {c with hw:=true,w:=n} by rw[hR,if_neg (by rw[hfa,GK];simpa using hn)])
     clear hR hfa GK
     go_enter func79,ntmps79
     go_wp2_with (first
     |(go_at_call 111;refine(nT.out _).mono ?_;rintro e w6 ⟨rfl,hw⟩;subst w6)
     |fail)
     go_ret
     rw[HR.out]
     exact⟨rfl,(hI.out.set 2 (.bool true)).set 3 (.int .i64 n),(Fk.set (J:=fun j=>j=g) hI.out 2 _ rfl).trans (Fk.set (J:=fun j=>j=g) (hI.out.set 2 _) 3 _ rfl)⟩
 rw[if_neg h119]at hR
 have n119:(b2 x==119)=false:=by
  rw[beq_eq_false_iff_ne]
  exact fun h=>h119 (G7.mp h)
 by_cases Cp:x=104
 ·rw[if_pos Cp]at hR
  have hX:b2 x=104:=G6.mpr (by rw[Cp];rfl)
  rw[hX]at hx
  clear G7 G6 G9 hX h119 Cp n119
  have j8:=fun W=>jd m W Y7
  rw[<-HUM.out]at j8
  cases hW:cR m with
  |none =>
   rw[hW]at hR j8
   have nT:=h_ (show ∀W,Calls prog 111 #[.string u] W fun e w'=>e=.returned (.tuple #[.int .i64 0,.bool false])∧w'=W from j8)
   have HR:=h_ (show R=none from hR)
   clear hR j8 hW hE
   go_enter func79,ntmps79
   go_wp2_with (first
     |(go_at_call 111;refine(nT.out _).mono ?_;rintro e w6 ⟨rfl,hw⟩;subst w6)
     |fail)
   go_ret
   rw[HR.out]
   exact⟨rfl,hI.out,Fk.refl _ _⟩
  |some n =>
   rw[hW]at hR j8
   have nT:=h_ (show ∀W,Calls prog 111 #[.string u] W fun e w'=>e=.returned (.tuple #[.int .i64 n,.bool true])∧w'=W from j8)
   replace hR:R=if n<1∨c.hh=true∨c.hd=true then none else some {c with hh:=true,h:=n}:=hR
   clear j8 hW hE
   by_cases hn:n<1
   ·have HR:=h_ (show R=none by rw[hR,if_pos (.inl hn)])
    clear hR
    go_enter func79,ntmps79
    go_wp2_with (first
     |(go_at_call 111;refine(nT.out _).mono ?_;rintro e w6 ⟨rfl,hw⟩;subst w6)
     |fail)
    go_ret
    rw[HR.out]
    exact⟨rfl,hI.out,Fk.refl _ _⟩
   cases hfa:c.hh with
   |true =>
    rw[hfa]at c4
    have HR:=h_ (show R=none by rw[hR,if_pos (.inr (.inl hfa))])
    clear hR hfa
    go_enter func79,ntmps79
    go_wp2_with (first
     |(go_at_call 111;refine(nT.out _).mono ?_;rintro e w6 ⟨rfl,hw⟩;subst w6)
     |fail)
    go_ret
    rw[HR.out]
    exact⟨rfl,hI.out,Fk.refl _ _⟩
   |false =>
    rw[hfa]at c4
    cases GK:c.hd with
    |true =>
     rw[GK]at c6
     have HR:=h_ (show R=none by rw[hR,if_pos (.inr (.inr GK))])
     clear hR hfa GK
     go_enter func79,ntmps79
     go_wp2_with (first
     |(go_at_call 111;refine(nT.out _).mono ?_;rintro e w6 ⟨rfl,hw⟩;subst w6)
     |fail)
     go_ret
     rw[HR.out]
     exact⟨rfl,hI.out,Fk.refl _ _⟩
    |false =>
     rw[GK]at c6
     have HR:=h_ (show R=some {c with hh:=true,h:=n} by rw[hR,if_neg (by rw[hfa,GK];simpa using hn)])
     clear hR hfa GK
     go_enter func79,ntmps79
     go_wp2_with (first
     |(go_at_call 111;refine(nT.out _).mono ?_;rintro e w6 ⟨rfl,hw⟩;subst w6)
     |fail)
     go_ret
     rw[HR.out]
     exact⟨rfl,(hI.out.set 4 (.bool true)).set 5 (.int .i64 n),(Fk.set (J:=fun j=>j=g) hI.out 4 _ rfl).trans (Fk.set (J:=fun j=>j=g) (hI.out.set 4 _) 5 _ rfl)⟩
 rw[if_neg Cp]at hR
 have n104:(b2 x==104)=false:=by
  rw[beq_eq_false_iff_ne]
  exact fun h=>Cp (G6.mp h)
 by_cases GF:x=120
 ·rw[if_pos GF]at hR
  have hX:b2 x=120:=G9.mpr (by rw[GF];rfl)
  rw[hX]at hx
  clear G7 G6 G9 hX h119 Cp GF n119 n104
  have hfl:=GC m w Y7 hE
  rw[<-HUM.out]at hfl
  clear hE
  cases hW:Lm m with
  |none =>
   have hfe:zK m=(0,false):=by unfold zK;rw[hW]
   rw[hW]at hR
   rw[hfe]at hfl
   have xg:=h_ (show Calls prog 112 #[.string u] w fun e w'=>e=.returned (.tuple #[.float .f64 0,.bool false])∧Below w.heap.size w w' from hfl)
   have HR:=h_ (show R=none from hR)
   clear hR hfl hW hfe
   go_enter func79,ntmps79
   go_wp2_with (first
     |(go_at_call 112;refine(xg.out).mono ?_;rintro e w6 ⟨rfl,hb⟩;have jB:=h_ hb;have I6:=h_ (hI.out.keep hb);have d2:=I6.out.ak (j:=2) (v:=.bool c.hw) rfl;have d4:=I6.out.ak (j:=4) (v:=.bool c.hh) rfl;have d6:=I6.out.ak (j:=6) (v:=.bool c.hd) rfl;have d7:=I6.out.ak (j:=7) (v:=.float .f64 c.d) rfl;have g6:=I6.out.s6 6;have g7:=I6.out.s6 7;clear hb)
     |fail)
   go_ret
   rw[HR.out]
   exact⟨rfl,I6.out,Fk.of_below jB.out⟩
  |some f =>
   have hfe:zK m=(qr f,true):=by unfold zK;rw[hW]
   rw[hW]at hR
   rw[hfe]at hfl
   obtain⟨B,hB⟩:=ap (qr f)
   replace hR:R=if geB (qr f)=false∨c.hw=true∨c.hh=true∨c.hd=true then none else some {c with hd:=true,d:=qr f}:=hR
   rw[<-hB]at hfl hR
   have xg:=h_ (show Calls prog 112 #[.string u] w fun e w'=>e=.returned (.tuple #[.float .f64 B,.bool true])∧Below w.heap.size w w' from hfl)
   clear hfl hW hfe hB
   cases hge:geB B with
   |false =>
    have HR:=h_ (show R=none by rw[hR,if_pos (.inl hge)])
    have LK:(FloatKind.f64.format.order B 0==some .gt||FloatKind.f64.format.order B 0==some .eq)=false:=hge
    clear hR hge
    go_enter func79,ntmps79
    go_wp2_with (first
     |(go_at_call 112;refine(xg.out).mono ?_;rintro e w6 ⟨rfl,hb⟩;have jB:=h_ hb;have I6:=h_ (hI.out.keep hb);have d2:=I6.out.ak (j:=2) (v:=.bool c.hw) rfl;have d4:=I6.out.ak (j:=4) (v:=.bool c.hh) rfl;have d6:=I6.out.ak (j:=6) (v:=.bool c.hd) rfl;have d7:=I6.out.ak (j:=7) (v:=.float .f64 c.d) rfl;have g6:=I6.out.s6 6;have g7:=I6.out.s6 7;clear hb)
     |fail)
    go_ret
    rw[HR.out]
    exact⟨rfl,I6.out,Fk.of_below jB.out⟩
   |true =>
    have LK:(FloatKind.f64.format.order B 0==some .gt||FloatKind.f64.format.order B 0==some .eq)=true:=hge
    cases Xe:c.hw with
    |true =>
     have HR:=h_ (show R=none by rw[hR,if_pos (.inr (.inl Xe))])
     have Zq:=LK
     clear hR hge
     go_enter func79,ntmps79
     go_wp2_with (first
     |(go_at_call 112;refine(xg.out).mono ?_;rintro e w6 ⟨rfl,hb⟩;have jB:=h_ hb;have I6:=h_ (hI.out.keep hb);have d2:=I6.out.ak (j:=2) (v:=.bool c.hw) rfl;have d4:=I6.out.ak (j:=4) (v:=.bool c.hh) rfl;have d6:=I6.out.ak (j:=6) (v:=.bool c.hd) rfl;have d7:=I6.out.ak (j:=7) (v:=.float .f64 c.d) rfl;have g6:=I6.out.s6 6;have g7:=I6.out.s6 7;clear hb;rw[Xe]at d2)
     |fail)
     go_ret
     rw[HR.out]
     exact⟨rfl,I6.out,Fk.of_below jB.out⟩
    |false =>
     cases Zs:c.hh with
     |true =>
      have HR:=h_ (show R=none by rw[hR,if_pos (.inr (.inr (.inl Zs)))])
      have Zq:=LK
      clear hR hge
      go_enter func79,ntmps79
      go_wp2_with (first
     |(go_at_call 112;refine(xg.out).mono ?_;rintro e w6 ⟨rfl,hb⟩;have jB:=h_ hb;have I6:=h_ (hI.out.keep hb);have d2:=I6.out.ak (j:=2) (v:=.bool c.hw) rfl;have d4:=I6.out.ak (j:=4) (v:=.bool c.hh) rfl;have d6:=I6.out.ak (j:=6) (v:=.bool c.hd) rfl;have d7:=I6.out.ak (j:=7) (v:=.float .f64 c.d) rfl;have g6:=I6.out.s6 6;have g7:=I6.out.s6 7;clear hb;rw[Xe]at d2;rw[Zs]at d4)
     |fail)
      go_ret
      rw[HR.out]
      exact⟨rfl,I6.out,Fk.of_below jB.out⟩
     |false =>
      cases hhd:c.hd with
      |true =>
       have HR:=h_ (show R=none by rw[hR,if_pos (.inr (.inr (.inr hhd)))])
       have Zq:=LK
       clear hR hge
       go_enter func79,ntmps79
       go_wp2_with (first
     |(go_at_call 112;refine(xg.out).mono ?_;rintro e w6 ⟨rfl,hb⟩;have jB:=h_ hb;have I6:=h_ (hI.out.keep hb);have d2:=I6.out.ak (j:=2) (v:=.bool c.hw) rfl;have d4:=I6.out.ak (j:=4) (v:=.bool c.hh) rfl;have d6:=I6.out.ak (j:=6) (v:=.bool c.hd) rfl;have d7:=I6.out.ak (j:=7) (v:=.float .f64 c.d) rfl;have g6:=I6.out.s6 6;have g7:=I6.out.s6 7;clear hb;rw[Xe]at d2;rw[Zs]at d4;rw[hhd]at d6)
     |fail)
       go_ret
       rw[HR.out]
       exact⟨rfl,I6.out,Fk.of_below jB.out⟩
      |false =>
       have hsf:=fun(W:World) (a:Addr) (m:Mode)=>Ap (P:=prog) W a B m
       have HR:=h_ (show R=some {c with hd:=true,d:=B} by rw[hR,if_neg (by rw[hge,Xe,Zs,hhd];simp)])
       clear hR hge
       go_enter func79,ntmps79
       go_wp2_with (first
     |(go_at_call 112;refine(xg.out).mono ?_;rintro e w6 ⟨rfl,hb⟩;have jB:=h_ hb;have I6:=h_ (hI.out.keep hb);have d2:=I6.out.ak (j:=2) (v:=.bool c.hw) rfl;have d4:=I6.out.ak (j:=4) (v:=.bool c.hh) rfl;have d6:=I6.out.ak (j:=6) (v:=.bool c.hd) rfl;have d7:=I6.out.ak (j:=7) (v:=.float .f64 c.d) rfl;have g6:=I6.out.s6 6;have g7:=I6.out.s6 7;clear hb;rw[Xe]at d2;rw[Zs]at d4;rw[hhd]at d6)
     |fail)
       go_ret
       rw[HR.out]
       exact⟨rfl,(I6.out.set 6 (.bool true)).set 7 (.float .f64 B),(Fk.of_below jB.out).trans ((Fk.set (J:=fun j=>j=g) I6.out 6 _ rfl).trans (Fk.set (J:=fun j=>j=g) (I6.out.set 6 _) 7 _ rfl))⟩
 rw[if_neg GF]at hR
 have n120:(b2 x==120)=false:=by
  rw[beq_eq_false_iff_ne]
  exact fun h=>GF (G9.mp h)
 have HR:=h_ hR
 generalize b2 x=X at hx n119 n104 n120
 clear hR G7 G6 G9 h119 Cp GF hE
 go_enter func79,ntmps79
 go_wp2_with fail
 go_ret
 rw[HR.out]
 exact⟨rfl,hI.out,Fk.refl _ _⟩

theorem BI (wv:Value) (c:dm):(aY wv c).size=8:=rfl
theorem mb:(prog.info? 45).map (·.size)=some 8:=by kernel_rfl
theorem Ew {wv:Value} {c:dm} (h:wv.oneCell'=true):∀ v∈(aY wv c).toList,v.oneCell'=true:=by
 intro v hv
 simp only[aY,aN,ci,or_false]at hv
 rcases hv with rfl|rfl|rfl|rfl|rfl|rfl|rfl|rfl
 all_goals first|rfl|exact h
theorem FX (w:World):(Instr.alloc 45 true (Value.tuple #[])).run prog w=.ok (.pointer (some ⟨w.heap.size,0,none⟩)) (w.alloc (.cells (aY aD C0) 45)):=by kernel_rfl
theorem Sw (w:World):(Instr.build 45 #[]).run prog w=.ok (.agg (aY aD C0)) w:=by kernel_rfl
theorem xt {f:Func} {k m:Nat} (hf:f.results=#[.cell k 45,.tmp m]) {tmps:Array Value} {w2:World} {b:Nat} {wv:Value} {c:dm} {q:Bool} {Post:Ending->World->Prop}
  (hk:tmps.getD k undef=.pointer (some ⟨b,0,none⟩)) (hm:tmps.getD m undef=.bool q) (i:CB w2 b 45 (aY wv c)) (hP:Post (.returned (.tuple #[.agg (aY wv c),.bool q])) w2) :
  bodyPost prog f Post Exit.ret {tmps:=tmps,defers:=[]} w2:=by
 have h2':tmps[k]?.getD undef=.pointer (some ⟨b,0,none⟩):=by simpa using hk
 have h3':tmps[m]?.getD undef=.bool q:=by simpa using hm
 have hl:=i.load (P:=prog) 45 _ underlying45 rfl mb
 refine bodyPost_ret (v:=.tuple #[.agg (aY wv c),.bool q]) ?_ rfl hP
 simp[results,hf,asAddr,h2',h3',hl]
theorem Pn (p0 wv:Value) (c0 c:dm):rF (aY p0 c0) 0 (aY wv c).toList=aY wv c:=ll [S c0.url,p0,.bool c0.hw,.int .i64 c0.w,.bool c0.hh,.int .i64 c0.h,.bool c0.hd,.float .f64 c0.d] [S c.url,wv,.bool c.hw,.int .i64 c.w,.bool c.hh,.int .i64 c.h,.bool c.hd,.float .f64 c.d] (by simp)
theorem SF (wv:Value) (c:dm):(aY wv c).toList.length=8:=rfl
section
variable {ops:Array Oper} {rest:List Oper} {o:Oper} {a:Act} {w:World} {Q:Exit->Act->World->Prop}
theorem Fm (hgd:o.guard=none) (x y:Operand) (ho:o.op=.store 45 x y) (w0:World) (b:Nat) {p0:Value} {c0:dm} (i:OB w0 b 45 (aY p0 c0) w) (wv:Value) (c:dm) (h1:wv.oneCell'=true)
  (hx:a.eval x=.pointer (some ⟨b,0,none⟩)) (hy:a.eval y=.agg (aY wv c))
  (K:∀ w',OB w0 b 45 (aY wv c) w'->Tn b w w'->wpList prog ops Q rest (a.put o.dst undef) w'):wpList prog ops Q (o::rest) a w :=
 rh hgd _ x y ho w0 b 45 (aY p0 c0) i 0 (aY wv c).toList hx hy (by rw[SF,BI];omega) (by rw[SF];exact mb) (Ew h1) (aY wv c) (Pn p0 wv c0 c) K
theorem xU (hgd:Region.wanted o (yielded ops a.tmps)=true) (x:Operand) (ho:o.op=.load 45 x) (b:Nat) (wv:Value) (c:dm) (i:CB w b 45 (aY wv c)) (hx:a.eval x=.pointer (some ⟨b,0,none⟩))
  (K:wpList prog ops Q rest (a.put o.dst (.agg (aY wv c))) w):wpList prog ops Q (o::rest) a w :=
 Ta hgd _ x ho b (aY wv c) _ underlying45 rfl mb hx i K
end
theorem Fk.y8 {B g:Nat} {w w':World} (h:Fk (fun j=>j=g) w w') (hB:B<=g) (hw:B<=w.heap.size):Below B w w' :=
 ⟨h.os,h.tape,h.output,h.s,fun j hj=>h.k j (aP hj hw) (fun e=>by omega)⟩
theorem Fk.tn {g:Nat} {w w':World} (h:Tn g w w') (h1:w'.os=w.os) (h2:w'.tape=w.tape) (h3:w'.output=w.output):Fk (fun j=>j=g) w w':=⟨h1,h2,h3,h.s,fun j hj hn=>h.k j hj hn⟩
def Xl (w:World):Option dm->Ending->World->Prop
 |none,e,w'=>e=.returned (.tuple #[.agg (aY aD C0),.bool false])∧Below w.heap.size w w'
 |some c,e,w'=>∃ wv,e=.returned (.tuple #[.agg (aY wv c),.bool true])∧w'.ownsRow w.heap.size 9 1 wv c.words.length (Strs c.words)∧Below w.heap.size w w'
theorem NI {ws:List Bytes} {k:Nat} (c:dm) (h:k<ws.length):nQ c (ws.drop k)=match mI c ws[k]with
  |none=>none
  |some c'=>nQ c' (ws.drop (k+1)):=by
 rw[ay h]
 rfl
def KF (ws:List Bytes):Option dm->Option dm
 |none=>none
 |some c=>if c.hh=true∧c.hw=false then none else some {c with words:=ws}
theorem UN (ws:List Bytes):lF ws=KF ws (nQ C0 ws):=by
 unfold lF KF
 cases nQ C0 ws <;>rfl
theorem oW (ws:List Bytes) (v:Value) (w:World) (h:Sl w.heap.size w v (ws.map S)) (hn:ws.length<=1024000000) (hx:∀ x∈ws,x.length<=1024000000) (hE:Env w) :
  Calls prog 42 #[v] w (Xl w (lF ws)):=by
 obtain⟨R,hR⟩:=ap (nQ C0 ws)
 have hd:lF ws=KF ws R:=by rw[hR];exact UN ws
 obtain⟨P,hP⟩:=ap (lF ws)
 rw[<-hP]at hd ⊢
 have HR:=h_ hR
 have HD:=h_ hd
 have HS:=h_ h
 have HX:=h_ hx
 have HE:=h_ hE
 have qS:=h_ (fun W (hb:Below w.heap.size w W)=>fX ws v W ((h.below hb).more hb.size) hn)
 obtain⟨av,cv,hv⟩:=dt h
 subst hv
 obtain⟨n,hnn⟩:=ap (ws.length)
 have yO:=h_ hnn
 rw[aj,<-hnn]
 rw[aj,<-hnn]at HS qS
 rw[<-hnn]at hn
 clear hR hd hx hE h hP hnn
 go_enter func42,ntmps42
 go_upto_region 1 with(first
  |(refine aE rfl 45 rfl _ _ (FX _) ?_)
  |fail)
 have G0:=h_ (CB.new w 45 (aY aD C0))
 have B0:=h_ ((Below.refl w.heap.size w).alloc (ae _) (.cells (aY aD C0) 45))
 obtain⟨w1,hw1⟩:=ap (w.alloc (.cells (aY aD C0) 45))
 rw[<-hw1]at G0 B0 ⊢
 clear hw1
 go_upto_region 2 with(first
  |(refine aE rfl 45 rfl _ _ (FX _) ?_)
  |fail)
 have G1:=h_ (CB.new w1 45 (aY aD C0))
 have B1:=h_ ((Below.refl w1.heap.size w1).alloc (ae _) (.cells (aY aD C0) 45))
 obtain⟨g,hg⟩:=ap (w1.heap.size)
 rw[<-hg]at G1 ⊢
 obtain⟨w2,hw2⟩:=ap (w1.alloc (.cells (aY aD C0) 45))
 rw[<-hw2]at G1 B1 ⊢
 clear hw2
 obtain⟨g0,hg0⟩:=ap (w.heap.size)
 rw[<-hg0]at G0 ⊢
 have G02:=h_ (G0.out.keep B1.out)
 have IN:=h_ (show g0≠g∧w.heap.size<=g0∧w.heap.size<=g∧w.heap.size=g0 from by
  have:=G0.out.lt
  have:=B0.out.size
  omega)
 have B2:=h_ (B0.out.trans (B1.out.mono (by have:=B0.out.size;exact this)))
 clear hg hg0 G0 B0 B1
 go_wp2_with fail
 go_loopw [9] (fun iv wr=>∃ (k:Nat) (c:dm),k<=n∧iv=.int .i64 k∧Hid (nQ c (ws.drop k)=R)∧Hid (CB wr g 45 (aY aD c))∧Hid (CB wr g0 45 (aY aD C0))∧Hid (Below w.heap.size w wr)) (fun i _=>n-(intOf i).toNat)
 case atStart=>exact⟨0,C0,by omega,by simp,HR.out.symm,G1.out,G02.out,B2.out⟩
 case round =>
  clear G1 G02 B2
  obtain⟨k,c,hk,rfl,HT,G1,G0,HB⟩:=hrel
  by_cases hlt:k<n
  ·have hkl:k<ws.length:=by rw[<-yO.out];exact hlt
   obtain⟨b,o,hva,hb,hcell⟩:=nc (HS.out.below HB.out) k hkl
   have hst:=NI c hkl
   rw[HT.out]at hst
   have hxl:=HX.out ws[k] (bJ hkl)
   have htk:=NJ g aD c ws[k] wr hxl G1.out (HE.out.below HB.out)
   subst hva
   generalize ws[k]=x at hcell hst htk
   obtain⟨t,ht⟩:=ap (bs x)
   have hcell2:wr.cell? ⟨b,o+k,none⟩=some (.string t):=by rw[ht];exact hcell
   rw[<-ht]at htk
   clear hcell ht hxl
   cases hq:mI c x with
   |none =>
    rw[hq]at htk hst
    have Jq:=h_ (show Calls prog 79 #[.pointer (some ⟨g,0,none⟩),.string t] wr fun e w'=>e=.returned (.bool false)∧CB w' g 45 (aY aD c)∧Fk (fun j=>j=g) wr w' from htk)
    have HF:=h_ (show P=none by rw[HD.out,hst];rfl)
    clear htk hst hq
    go_wp2_with (first
     |(go_at_call 79;refine Jq.out.mono ?_;rintro e w5 ⟨rfl,_,hf⟩;have I0:=h_ (OB.of (w0:=w) (hf.cb G0.out IN.out.1) IN.out.2.1 (HB.out.trans (hf.y8 IN.out.2.2.1 HB.out.size)));clear hf)
     |(refine bG rfl 45 _ rfl (.agg (aY aD C0)) #[] (by rfl) (fun w=>Sw w) ?_)
     |(refine Fm rfl (.tmp 2) (.tmp 16) rfl w g0 I0.out aD C0 rfl rfl rfl ?_;intro w6 i6 _;have I6:=h_ i6;clear i6)
     |fail)
    rw[HF.out]
    exact xt results42 rfl rfl ⟨I6.out.a⟩ ⟨rfl,I6.out.bq⟩
   |some c' =>
    rw[hq]at htk hst
    have Jq:=h_ (show Calls prog 79 #[.pointer (some ⟨g,0,none⟩),.string t] wr fun e w'=>e=.returned (.bool true)∧CB w' g 45 (aY aD c')∧Fk (fun j=>j=g) wr w' from htk)
    have HT2:=h_ (show nQ c' (ws.drop (k+1))=R from hst.symm)
    clear htk hst hq
    go_wp2_with (first
     |(go_at_call 79;refine Jq.out.mono ?_;rintro e w5 ⟨rfl,hc,hf⟩;have I1:=h_ hc;have I0:=h_ (hf.cb G0.out IN.out.1);have fK:=h_ (HB.out.trans (hf.y8 IN.out.2.2.1 HB.out.size));clear hf hc)
     |fail)
    go_roundw
    case rel=>exact⟨k+1,c',by omega,by simp,HT2.out,I1.out,I0.out,fK.out⟩
    case measure=>simp[intOf];omega
  obtain rfl:k=n:=by omega
  have hRc:R=some c:=by
   have:=HT.out
   rw[bf (by rw[yO.out];exact ae _)]at this
   exact this.symm
  have c4:=G1.out.ak (j:=4) (v:=.bool c.hh) rfl
  have c2:=G1.out.ak (j:=2) (v:=.bool c.hw) rfl
  by_cases hz:c.hh=true∧c.hw=false
  ·have HF:=h_ (show P=none by rw[HD.out,hRc];exact if_pos hz)
   rw[hz.1]at c4
   rw[hz.2]at c2
   have I0:=h_ (OB.of (w0:=w) G0.out IN.out.2.1 HB.out)
   clear hRc hz
   go_wp2_with (first
    |(refine bG rfl 45 _ rfl (.agg (aY aD C0)) #[] (by rfl) (fun w=>Sw w) ?_)
    |(refine Fm rfl (.tmp 2) (.tmp 25) rfl w g0 I0.out aD C0 rfl rfl rfl ?_;intro w6 i6 _;have I6:=h_ i6;clear i6)
    |fail)
   rw[HF.out]
   exact xt results42 rfl rfl ⟨I6.out.a⟩ ⟨rfl,I6.out.bq⟩
  have HF:=h_ (show P=some {c with words:=ws} by rw[HD.out,hRc];exact if_neg hz)
  have hcs:c.hh=false∨(c.hh=true∧c.hw=true):=by
   cases h1:c.hh with
   |false=>exact .inl rfl
   |true =>
    cases h2:c.hw with
    |true=>exact .inr ⟨rfl,rfl⟩
    |false=>exact absurd ⟨h1,h2⟩ hz
  have Iz:=h_ (qS.out wr HB.out)
  clear hRc hz qS
  rcases hcs with h1|⟨h1,h2⟩
  ·rw[h1]at c4
   clear h1 c2
   go_wp2_with (first
    |(go_at_call 30;refine Iz.out.mono ?_;rintro e w5 ⟨wv,rfl,ho,hb⟩;have HO:=h_ ho;have fK:=h_ (fJ HB.out hb);have I1:=h_ (OB.of (w0:=w) (G1.out.keep hb) IN.out.2.2.1 fK.out);have I0:=h_ (G0.out.keep hb);have LT:=h_ HB.out.size;clear hb ho)
    |(refine dJ rfl 28 (.tmp 28) (.tmp 27) rfl w g 45 (aY aD c) I1.out 1 wv rfl rfl (by exact aP (by omega) (ae 8)) (by kernel_rfl) (aS HO.out) (aY wv {c with words:=ws}) rfl ?_;intro w6 i6 t6;have I6:=h_ i6;have J0:=h_ (OB.of (w0:=w) (t6.cb I0.out IN.out.1) IN.out.2.1 i6.bq);have O6:=h_ t6;clear i6 t6)
    |(refine xU (by rfl) (.tmp 4) rfl g wv {c with words:=ws} ⟨I6.out.a⟩ rfl ?_)
    |(refine Fm rfl (.tmp 2) (.tmp 29) rfl w g0 J0.out wv {c with words:=ws} (aS HO.out) rfl rfl ?_;intro w7 i7 t7;have I7:=h_ i7;have T7:=h_ t7;clear i7 t7)
    |fail)
   rw[HF.out]
   have ho:=HO.out
   rw[aj]at ho
   exact xt results42 rfl rfl ⟨I7.out.a⟩ ⟨wv,rfl,aU (T7.out.row (O6.out.row ho G1.out.lt) G0.out.lt) HB.out.size,I7.out.bq⟩
  rw[h1]at c4
  rw[h2]at c2
  clear h1 h2
  go_wp2_with (first
   |(go_at_call 30;refine Iz.out.mono ?_;rintro e w5 ⟨wv,rfl,ho,hb⟩;have HO:=h_ ho;have fK:=h_ (fJ HB.out hb);have I1:=h_ (OB.of (w0:=w) (G1.out.keep hb) IN.out.2.2.1 fK.out);have I0:=h_ (G0.out.keep hb);have LT:=h_ HB.out.size;clear hb ho)
   |(refine dJ rfl 28 (.tmp 28) (.tmp 27) rfl w g 45 (aY aD c) I1.out 1 wv rfl rfl (by exact aP (by omega) (ae 8)) (by kernel_rfl) (aS HO.out) (aY wv {c with words:=ws}) rfl ?_;intro w6 i6 t6;have I6:=h_ i6;have J0:=h_ (OB.of (w0:=w) (t6.cb I0.out IN.out.1) IN.out.2.1 i6.bq);have O6:=h_ t6;clear i6 t6)
   |(refine xU (by rfl) (.tmp 4) rfl g wv {c with words:=ws} ⟨I6.out.a⟩ rfl ?_)
   |(refine Fm rfl (.tmp 2) (.tmp 29) rfl w g0 J0.out wv {c with words:=ws} (aS HO.out) rfl rfl ?_;intro w7 i7 t7;have I7:=h_ i7;have T7:=h_ t7;clear i7 t7)
   |fail)
  rw[HF.out]
  have ho:=HO.out
  rw[aj]at ho
  exact xt results42 rfl rfl ⟨I7.out.a⟩ ⟨wv,rfl,aU (T7.out.row (O6.out.row ho G1.out.lt) G0.out.lt) HB.out.size,I7.out.bq⟩

theorem rM (q:UInt8->Bool):∀ (l:Bytes) (s:Bool),l6 (fun _ c=>q c) (fun s _=>s) s l=(l.takeWhile q).length
 | [],_=>rfl
 |c::r,s=>by
  rw[l6]
  cases h:q c with
  |true=>rw[if_pos rfl,rM q r s,bo h,ag]
  |false=>rw[if_neg (by simp),bd (by rw[h];simp)];rfl
def IV (s:Bool) (c:UInt8):Bool:=s||(decide (c=40) || !(fP c))
def Iu (s:Bool) (c:UInt8):Bool:=if s=true then decide (c≠41)else decide (c=40)
theorem mP:∀ (l:Bytes) (s:Bool),l6 IV Iu s l=fM s l
 | [],s=>by cases s <;>rfl
 |c::r,true=>by
  rw[l6,fM,if_pos (by simp[IV]),mP r]
  simp[Iu]
 |c::r,false=>by
  rw[l6,fM]
  by_cases h:c=40
  ·rw[if_pos h,if_pos (by simp[IV,h]),mP r]
   simp[Iu,h]
  rw[if_neg h]
  cases hc:fP c with
  |true=>rw[if_neg (by simp[IV,h,hc]),if_pos rfl]
  |false=>rw[if_pos (by simp[IV,h,hc]),if_neg (by simp),mP r];simp[Iu,h]
theorem Er (c:UInt8) (k:Nat) (h:k<256):(b2 c==(k:Int))=decide (c=UInt8.ofNat k):=by
 by_cases e:c=UInt8.ofNat k
 ·rw[decide_eq_true e,(y4 c k h).mpr e];simp
 rw[decide_eq_false e,beq_eq_false_iff_ne]
 exact fun h2=>e ((y4 c k h).mp h2)
theorem F9:yH 37 #[] none (fun _ c=>iE c) (fun s _=>s) :=
 ⟨fun _ _=>rfl,fun _ c W hi=>(iW (b2 c) W).mono fun _ _ h=>⟨h.1,h.2▸hi,h.2▸Fk.refl _ _⟩⟩
theorem Wl (c:UInt8) (w:World):Calls prog 36 #[.int .u8 (b2 c)] w fun e w'=>e=.returned (.bool (fP c))∧w'=w:=by
 have hb:=fun W=>iW (b2 c) W
 have zR:(b2 c==44)=decide (c=44):=Er c 44 (by omega)
 have hR:fP c=(decide (c=44)||sq (b2 c)):=rfl
 rw[hR]
 have HB:=h_ hb
 generalize b2 c=X at *
 generalize decide (c=44)=q at *
 generalize sq X=r at *
 clear hb hR
 cases q <;>
 ·go_enter func36,ntmps36
  go_wp2_with (first|(go_at_call 37;refine(HB.out _).mono ?_;rintro e w2 ⟨rfl,hw⟩;subst w2)|fail)
  go_ret
  exact⟨by simp,rfl⟩
theorem Wm (c:UInt8) (w:World):Calls prog 38 #[.int .u8 (b2 c)] w fun e w'=>e=.returned (.bool (ie c))∧w'=w:=by
 have hb:=fun W=>iW (b2 c) W
 have hR:ie c=!(sq (b2 c)):=rfl
 rw[hR]
 have HB:=h_ hb
 generalize b2 c=X at *
 generalize sq X=r at *
 clear hb hR
 go_enter func38,ntmps38
 go_wp2_with (first|(go_at_call 37;refine(HB.out _).mono ?_;rintro e w2 ⟨rfl,hw⟩;subst w2)|fail)
 go_ret
 exact⟨rfl,rfl⟩
theorem Ut:yH 36 #[] none (fun _ c=>fP c) (fun s _=>s) :=
 ⟨fun _ _=>rfl,fun _ c W hi=>(Wl c W).mono fun _ _ h=>⟨h.1,h.2▸hi,h.2▸Fk.refl _ _⟩⟩
theorem Uu:yH 38 #[] none (fun _ c=>ie c) (fun s _=>s) :=
 ⟨fun _ _=>rfl,fun _ c W hi=>(Wm c W).mono fun _ _ h=>⟨h.1,h.2▸hi,h.2▸Fk.refl _ _⟩⟩
theorem UM (f:Nat) (s:Bool) (c:UInt8) (w:World) (i:CB w f 4 #[.bool s]):Calls prog 78 #[.int .u8 (b2 c),.pointer (some ⟨f,0,none⟩)] w fun e w' =>
  e=.returned (.bool (IV s c))∧CB w' f 4 #[.bool (Iu s c)]∧Fk (fun j=>j=f) w w':=by
 have HB:=h_ (fun W=>iW (b2 c) W)
 have zR:(b2 c==44)=decide (c=44):=Er c 44 (by omega)
 have h41:(b2 c==41)=decide (c=41):=Er c 41 (by omega)
 have h40:(b2 c==40)=decide (c=40):=Er c 40 (by omega)
 have hR:fP c=(decide (c=44)||sq (b2 c)):=rfl
 have HI:=h_ i
 have c1:=i.ak (j:=0) (v:=.bool s) rfl
 have f1:=i.s6 0
 clear i
 cases s with
 |true =>
  have hn:(b2 c != 41)=Iu true c:=by
   unfold bne
   rw[h41]
   simp[Iu]
  obtain⟨q,hq⟩:=ap (Iu true c)
  rw[<-hq]at hn ⊢
  clear zR h41 h40 hR hq HB
  have hwp:IV true c=true:=rfl
  rw[hwp]
  generalize b2 c=X at *
  clear hwp
  go_enter func78,ntmps78
  go_wp2_with fail
  go_ret
  exact⟨rfl,HI.out.set 0 (.bool q),Fk.set (J:=fun j=>j=f) HI.out 0 _ rfl⟩
 |false =>
  by_cases e40:c=40
  ·rw[decide_eq_true e40]at h40
   have hwp:IV false c=true:=by unfold IV;rw[decide_eq_true e40];rfl
   have hwn:Iu false c=true:=by unfold Iu;rw[if_neg (by simp),decide_eq_true e40]
   rw[hwp,hwn]
   generalize b2 c=X at *
   clear zR h41 hR hwp hwn e40 HB
   go_enter func78,ntmps78
   go_wp2_with fail
   go_ret
   exact⟨rfl,HI.out.set 0 (.bool true),Fk.set (J:=fun j=>j=f) HI.out 0 _ rfl⟩
  rw[decide_eq_false e40]at h40
  have hwp:IV false c=!(fP c):=by unfold IV;rw[decide_eq_false e40];rfl
  have hwn:Iu false c=false:=by unfold Iu;rw[if_neg (by simp),decide_eq_false e40]
  rw[hwp,hwn,hR]
  generalize b2 c=X at *
  generalize decide (c=44)=q at *
  generalize sq X=r at *
  clear h41 hR hwp hwn e40
  cases q with
  |true =>
   go_enter func78,ntmps78
   go_wp2_with (first|(go_at_call 37;refine(HB.out _).mono ?_;rintro e w2 ⟨rfl,hw⟩;subst w2)|fail)
   go_ret
   exact⟨rfl,HI.out,Fk.refl _ _⟩
  |false =>
   cases r <;>
   ·go_enter func78,ntmps78
    go_wp2_with (first|(go_at_call 37;refine(HB.out _).mono ?_;rintro e w2 ⟨rfl,hw⟩;subst w2)|fail)
    go_ret
    exact⟨rfl,HI.out,Fk.refl _ _⟩
theorem Us (f:Nat):yH 78 #[.pointer (some ⟨f,0,none⟩)] (some f) IV Iu :=
 ⟨fun _ _=>rfl,fun s c W hi=>(UM f s c W (hi f rfl)).mono fun _ _ h=>⟨h.1,fun b hb=>by obtain rfl:f=b:=bw hb;exact h.2.1,h.2.2.more fun j hj=>by subst hj;rfl⟩⟩
theorem Fk.row {J:Nat->Prop} {w w':World} (h:Fk J w w') {base e n:Nat} {v:Value} {xs:List Value} (i:w.ownsRow base e 1 v n xs) (hn:∀ g,base<=g->g<w.heap.size->v.ownBlock=some g->¬ J g):w'.ownsRow base e 1 v n xs:=by
 refine⟨i.1,?_⟩
 rcases i.2 with h0|⟨g,cap,cur,e1,hg,hh,hr⟩
 ·exact .inl h0
 have hlt:=(bg.1 hh).1
 exact .inr ⟨g,cap,cur,e1,hg,(h.k g hlt (hn g hg hlt (by rw[e1];rfl))).trans hh,hr⟩

theorem Fk.step {J K:Nat->Prop} {w w1 w2:World} (h:Fk J w w1) (k:Fk K w1 w2) (hk:∀ j,j<w.heap.size->K j->J j):Fk J w w2 :=
 ⟨k.os.trans h.os,k.tape.trans h.tape,k.output.trans h.output,aq h.s k.s,fun j hj hn=>(k.k j (aP hj h.s) fun hK=>hn (hk j hj hK)).trans (h.k j hj hn)⟩
theorem Fk.Ho {B:Nat} {w w':World} (h:Below B w w'):Fk (fun j=>B<=j) w w':=⟨h.os,h.tape,h.output,h.size,fun j _ hn=>h.block j (Nat.lt_of_not_le hn)⟩
theorem r5 (p:UInt8->Bool):∀ l:Bytes,l.drop (l.takeWhile p).length=l.dropWhile p
 | []=>rfl
 |c::r=>by
  cases h:p c with
  |true=>rw[bo h,bh h,ag,AS,r5 p r]
  |false=>rw[bd (by rw[h];simp),bC (by rw[h];simp)];rfl
theorem ut (p:UInt8->Bool) (l:Bytes):(l.takeWhile p).length<=l.length:=(ve _).length_le
def a1P (l:Bytes) (k A B:Nat) (w:World) (R:List Bytes×Bytes):Ending->World->Prop:=fun e w'=>∃ (wv:Value) (k':Nat),e=.returned wv∧k<=k'∧k'<=l.length∧l.drop k'=R.2 ∧
 w'.ownsRow w.heap.size 9 1 wv R.1.length (Strs R.1)∧CB w' A 3 #[.int .i64 (k':Int)]∧CB w' B 9 #[.string (bs l)]∧Fk (fun j=>j=A) w w'
theorem sE (l:Bytes) (k A B:Nat) (w:World) (hl:l.length<=1024000000) (hkl:k<=l.length) (cA:CB w A 3 #[.int .i64 k]) (cB:CB w B 9 #[.string (bs l)]) (EK:B≠A) :
  Calls prog 41 #[.func (.func 35) #[] #[.pointer (some ⟨A,0,none⟩),.pointer (some ⟨B,0,none⟩)]] w (a1P l k A B w (jM (l.drop k))):=by
 obtain⟨i1,hi1,hz1,hz2,hz3⟩:=info_parts kF
 obtain⟨R,hR⟩:=ap (jM (l.drop k))
 rw[<-hR]
 have HR:=h_ hR
 have j5:=h_ (show A<w.heap.size∧B<w.heap.size from⟨cA.lt,cB.lt⟩)
 have HA:=h_ cA
 have HB:=h_ cB
 have lA:=h_ EK
 obtain⟨N,hN⟩:=ap (l.length)
 have HN:=h_ hN
 rw[<-hN]at hl hkl
 clear hR cA cB EK hN
 go_enter func41,ntmps41
 go_wp2_with fail
 go_loopg [3] (N+1) (fun gf wv wr=>∃ (j:Nat) (acc:List Bytes),k<=j∧j<=N∧N-j<gf∧acc.length<=j∧Hid (R=(acc++(jM (l.drop j)).1,(jM (l.drop j)).2))∧Hid (wr.ownsRow w.heap.size 9 1 wv acc.length (Strs acc))∧Hid (CB wr A 3 #[.int .i64 (j:Int)])∧Hid (CB wr B 9 #[.string (bs l)])∧Hid (Fk (fun j=>j=A) w wr))
 case atStart=>exact⟨k,[],ae _,hkl,by omega,by simp,by rw[HR.out];rfl,World.ownsRow_nil _ _ _ _,HA.out,HB.out,Fk.refl _ _⟩
 case round =>
  obtain⟨j,acc,hkj,Zw,hf,hal,HW,HO,HA1,HB1,HF⟩:=hrel
  obtain⟨g',rfl⟩:∃ g',gk=g'+1:=⟨gk-1,by omega⟩
  have hjl:j<=l.length:=by rw[<-HN.out];exact Zw
  have hs1:=pK F9 l j A B false wr (by rw[<-HN.out];exact hl) hjl HA1.out HB1.out (fun b h=>by cases h) (by simp) (by simp) lA.out
  rw[rM]at hs1
  obtain⟨j1,hj1⟩:=ap (j+((l.drop j).takeWhile iE).length)
  have P1:j1<=l.length:=by
   have:=ut iE (l.drop j)
   rw[ai]at this
   omega
  have hd1:l.drop j1=(l.drop j).dropWhile iE:=by rw[hj1,<-List.drop_drop,r5]
  rw[<-hj1]at hs1
  have hw:=WE (l.drop j)
  rw[<-hd1]at hw
  obtain⟨n2,hn2⟩:=ap (fM false (l.drop j1))
  rw[<-hn2]at hw
  have a4g:n2<=l.length-j1:=by
   have:=kH (l.drop j1) false
   rw[ai]at this
   omega
  have XK:=h_ hs1
  have HS2:=h_ (fun(f:Nat) (W:World) (a:CB W A 3 #[.int .i64 (j1:Int)]) (b:CB W B 9 #[.string (bs l)]) (c:CB W f 4 #[.bool false]) (d:f≠A) (e:f≠B)=>pK (Us f) l j1 A B false W (by rw[<-HN.out];exact hl) P1 a b (fun b h=>by obtain rfl:f=b:=bw h;exact c) (by simpa using d) (by simpa using e) lA.out)
  rw[mP,<-hn2]at HS2
  obtain⟨x,hx⟩:=ap ((l.drop j1).take n2)
  rw[<-hx]at HS2 hw
  have hxl:x.length=n2:=by rw[hx,aA,ai];omega
  have hjj:j<=j1:=by omega
  have yM:=h_ (show j1+n2<=N by have:=HN.out;omega)
  obtain⟨t,ht⟩:=ap (bs x)
  rw[show S x=Value.string t by rw[ht]]at HS2
  clear hs1 hj1 hd1 hn2 a4g P1 hjl
  by_cases h0:n2=0
  ·rw[if_pos h0]at hw
   have hx0:x=[]:=am (by omega)
   have he:t.toList=[]:=by rw[ht,hx0,au]
   have he1:t.toList.isEmpty=true:=by rw[he];rfl
   have r9:=h_ (show R=(acc,l.drop j1) by rw[HW.out,hw];simp)
   have HT:=h_ ht
   clear ht hx hw hx0 hxl HW
   go_wp2_with fail
   refine XK.out.mono ?_
   rintro e w3 ⟨rfl,hA,hB,hF⟩
   have Tz:=h_ hA
   have HB3:=h_ hB
   have OL:=h_ (HF.out.step hF (fun i _ h=>h.elim id (fun h=>by cases h)))
   have lB:=h_ (hF.row HO.out (fun g h1 _ _ h2=>h2.elim (fun e=>by have:=j5.out.1;omega) (fun e=>by cases e)))
   clear hA hB hF
   go_upto_region 4 with fail
   have FK:=h_ (CB.new w3 4 #[.bool false])
   have hb4:=(Below.refl w3.heap.size w3).alloc (ae _) (.cells #[.bool false] 4)
   obtain⟨w4,hw4⟩:=ap (w3.alloc (.cells #[.bool false] 4))
   rw[<-hw4]at FK hb4 ⊢
   have WI:=h_ (Tz.out.keep hb4)
   have eZ:=h_ (HB3.out.keep hb4)
   have LT4:=h_ OL.out.s
   have X0:=h_ (show w3.heap.size≠A∧w3.heap.size≠B from by have:=j5.out;have:=OL.out.s;omega)
   have HF4:=h_ (OL.out.trans (Fk.of_below hb4))
   have Bf:=h_ (own_below' lB.out hb4)
   have HG4:=h_ (fun g hg=>(lB.out.lt g hg).2)
   clear hw4 hb4
   go_wp2_with fail
   refine(HS2.out _ _ WI.out eZ.out FK.out X0.out.1 X0.out.2).mono ?_
   rintro e w5 ⟨rfl,hA,hB,hF⟩
   have OD:=h_ hA
   have fK:=h_ hB
   have HF5:=h_ (HF4.out.step hF (fun i h1 h=>h.elim id (fun h=>by have:=LT4.out;have:=bw h;omega)))
   have uE:=h_ (hF.row Bf.out (fun g h1 _ h3 h2=>h2.elim (fun e=>by have:=j5.out.1;omega) (fun e=>by have:=HG4.out g h3;have:=bw e;omega)))
   clear hA hB hF
   go_wp2_with fail
   go_ret
   exact⟨_,j1,rfl,by omega,by have:=yM.out;have:=HN.out;omega,by rw[r9.out],by rw[r9.out];exact uE.out,by have:=OD.out;rw[h0]at this;exact this,fK.out,HF5.out⟩
  rw[if_neg h0]at hw
  have he:¬ t.toList=[]:=by
   rw[ht,au]
   rintro rfl
   exact h0 (by simpa using hxl.symm)
  have he1:t.toList.isEmpty=false:=by simpa using he
  have yR:=h_ (show R=((acc++[x])++(jM (l.drop (j1+n2))).1,(jM (l.drop (j1+n2))).2) by
   rw[HW.out,hw,oH]
   simp)
  have HT:=h_ (show Value.string t=.string (bs x) by rw[ht])
  have hpos:0<n2:=Nat.pos_of_ne_zero h0
  clear ht hx hw hxl HW h0
  go_wp2_with fail
  refine XK.out.mono ?_
  rintro e w3 ⟨rfl,hA,hB,hF⟩
  have Tz:=h_ hA
  have HB3:=h_ hB
  have OL:=h_ (HF.out.step hF (fun i _ h=>h.elim id (fun h=>by cases h)))
  have lB:=h_ (hF.row HO.out (fun g h1 _ _ h2=>h2.elim (fun e=>by have:=j5.out.1;omega) (fun e=>by cases e)))
  clear hA hB hF
  go_upto_region 4 with fail
  have FK:=h_ (CB.new w3 4 #[.bool false])
  have hb4:=(Below.refl w3.heap.size w3).alloc (ae _) (.cells #[.bool false] 4)
  obtain⟨w4,hw4⟩:=ap (w3.alloc (.cells #[.bool false] 4))
  rw[<-hw4]at FK hb4 ⊢
  have WI:=h_ (Tz.out.keep hb4)
  have eZ:=h_ (HB3.out.keep hb4)
  have LT4:=h_ OL.out.s
  have X0:=h_ (show w3.heap.size≠A∧w3.heap.size≠B from by have:=j5.out;have:=OL.out.s;omega)
  have HF4:=h_ (OL.out.trans (Fk.of_below hb4))
  have Bf:=h_ (own_below' lB.out hb4)
  have HG4:=h_ (fun g hg=>(lB.out.lt g hg).2)
  clear hw4 hb4
  go_wp2_with fail
  refine(HS2.out _ _ WI.out eZ.out FK.out X0.out.1 X0.out.2).mono ?_
  rintro e w5 ⟨rfl,hA,hB,hF⟩
  have OD:=h_ hA
  have fK:=h_ hB
  have HF5:=h_ (HF4.out.step hF (fun i h1 h=>h.elim id (fun h=>by have:=LT4.out;have:=bw h;omega)))
  have uE:=h_ (hF.row Bf.out (fun g h1 _ h3 h2=>h2.elim (fun e=>by have:=j5.out.1;omega) (fun e=>by have:=HG4.out g h3;have:=bw e;omega)))
  clear hA hB hF
  have hbs:w.heap.size<=w5.heap.size:=HF5.out.s
  have hj2:=yM.out
  go_wp2_with (first
   |(at_builtin;(refine ez rfl (.tmp 14) (.tmp 16) _ rfl w.heap.size 9 i1 (.string ⟨#[]⟩) 16 underlying28 hi1 hz1 hz2 hz3 (by decide) _ _ acc.length (Strs acc) rfl uE.out (.string t) rfl rfl (by omega) (by decide) (by omega) ?_);intro v9 w9 fZ LR qZ;have FN:=h_ fZ;clear fZ;have hH:=h_ qZ;clear qZ)
   |fail)
  go_roundg g'
  case measure=>omega
  case rel =>
   refine⟨j1+n2,acc++[x],by omega,by omega,by omega,by simp;omega,yR.out,?_,?_,?_,HF5.out.step (Fk.Ho hH.out) (fun i h1 h2=>absurd h1 (Nat.not_lt_of_le h2))⟩
   ·have h9:=FN.out
    rw[HT.out]at h9
    rw[af,kO,gV]
    exact h9
   ·exact⟨(hH.out.block A j5.out.1).trans OD.out.a⟩
   exact⟨(hH.out.block B j5.out.2).trans fK.out.a⟩

theorem Gi:(prog.info? 45).map (fun i=>(i.zero,i.size,i.bytes))=some (some (.agg (aY aD C0)),8,88):=by kernel_rfl
theorem Nt {W:World} {b1 e1 s1 n1 b2 e2 s2 n2:Nat} {v1 v2:Value} {x1 x2:List Value} (h1:W.ownsRow b1 e1 s1 v1 n1 x1) (h2:W.ownsRow b2 e2 s2 v2 n2 x2) (he:e1≠e2):∀ k,v1.ownBlock=some k->v2.ownBlock≠some k:=by
 intro k hk hk2
 rcases h1.2 with⟨rfl,_⟩|⟨g,cap,cur,rfl,_,hh,_⟩
 ·cases hk
 rcases h2.2 with⟨rfl,_⟩|⟨g2,cap2,a8v,rfl,_,LL,_⟩
 ·cases hk2
 obtain rfl:g=k:=bw hk
 obtain rfl:g2=g:=bw hk2
 rw[hh]at LL
 injection LL with LL
 injection LL with _ LL
 exact he LL
def jf (W:World) (base:Nat) (v:Value) (l:List dm):Prop:=∃ ps:List (Value×dm),ps.map (·.2)=l∧W.ownsRow base 45 8 v ps.length (ps.flatMap fun p=>(aY p.1 p.2).toList) ∧
 ∀p∈ps,W.ownsRow base 9 1 p.1 p.2.words.length (Strs p.2.words)
theorem jf.nil (W:World) (base:Nat):jf W base (.slice none 0 0) []:=⟨[],rfl,World.ownsRow_nil _ _ _ _,fun p hp=>by cases hp⟩
theorem Fk.tT {J:Nat->Prop} {w w':World} (h:Fk J w w') {base e s n:Nat} {v:Value} {xs:List Value} (i:w.ownsRow base e s v n xs) (hn:∀ g,base<=g->g<w.heap.size->¬ J g):w'.ownsRow base e s v n xs:=by
 refine⟨i.1,?_⟩
 rcases i.2 with h0|⟨g,cap,cur,e1,hg,hh,hr⟩
 ·exact .inl h0
 have hlt:=(bg.1 hh).1
 exact .inr ⟨g,cap,cur,e1,hg,(h.k g hlt (hn g hg hlt)).trans hh,hr⟩
theorem jf.fk {W W':World} {base:Nat} {v:Value} {l:List dm} {J:Nat->Prop} (c:jf W base v l) (h:Fk J W W') (hn:∀ g,base<=g->g<W.heap.size->¬ J g):jf W' base v l:=by
 obtain⟨ps,h1,h2,h3⟩:=c
 exact⟨ps,h1,h.tT h2 hn,fun p hp=>h.tT (h3 p hp) hn⟩
theorem jf.below {W W':World} {base:Nat} {v:Value} {l:List dm} (c:jf W base v l) (h:Below W.heap.size W W'):jf W' base v l:=c.fk (J:=fun _=>False) ⟨h.os,h.tape,h.output,h.size,fun j hj _=>h.block j hj⟩ fun _ _ _ h=>h
theorem jf.base {W:World} {base base':Nat} {v:Value} {l:List dm} (c:jf W base v l) (hb:base'<=base):jf W base' v l:=by
 have key:∀ {e s n:Nat} {v:Value} {xs:List Value},W.ownsRow base e s v n xs->W.ownsRow base' e s v n xs:=by
  intro e s n v xs i
  refine⟨i.1,?_⟩
  rcases i.2 with h0|⟨g,cap,cur,e1,hg,hr⟩
  ·exact .inl h0
  exact .inr ⟨g,cap,cur,e1,aq hb hg,hr⟩
 obtain⟨ps,h1,h2,h3⟩:=c
 exact⟨ps,h1,key h2,fun p hp=>key (h3 p hp)⟩
theorem jf.len {W:World} {base:Nat} {v:Value} {l:List dm} (c:jf W base v l):∃ a cp,v=.slice a l.length cp:=by
 obtain⟨ps,rfl,h2,_⟩:=c
 rw[aj]
 rcases h2.2 with⟨rfl,h0⟩|⟨g,cap,cur,rfl,_⟩
 ·exact⟨none,0,by rw[h0]⟩
 exact⟨_,_,rfl⟩
def Rj (B:Nat) (W:World) (v:Value) (l:List dm):Prop :=
 ∃c,l.length<=c∧((l=[]∧∃ a,v=.slice a 0 c)∨∃ b o,b<B∧v=.slice (some ⟨b,o,none⟩) l.length c∧∀ k (hk:k<l.length),∃wv,W.rangeAt b (o+k*8) (aY wv l[k]).toList∧Sl B W wv (l[k].words.map S))
theorem rV {α:Type} (f:α->List Value) (n:Nat):∀ (ps:List α) (_:∀ p∈ps,(f p).length=n) (k j:Nat) (hk:k<ps.length) (_:j<n),(ps.flatMap f)[k*n+j]? = (f ps[k])[j]?
 | [],_,k,j,hk,_=>absurd hk (bE _)
 |p::ps,h,0,j,hk,hj=>by
  rw[gH,Nat.zero_mul,bk,cG (by rw[h p (by simp)];exact hj)]
  rfl
 |p::ps,h,k+1,j,hk,hj=>by
  have ih:=rV f n ps (fun q hq=>h q (by simp[hq])) k j (by simpa using hk) hj
  rw[gH,cu (by rw[h p (by simp),Nat.succ_mul];omega),h p (by simp)]
  rw[show(k+1)*n+j-n=k*n+j by rw[Nat.succ_mul];omega]
  exact ih
theorem jf.SG {W:World} {base:Nat} {v:Value} {l:List dm} (c:jf W base v l) (hl:l.length<=maxLen):Rj W.heap.size W v l:=by
 obtain⟨ps,rfl,h2,h3⟩:=c
 rcases h2.2 with⟨rfl,h0⟩|⟨g,cap,cur,rfl,hg,hh,hnc,hcm,hsz,htk⟩
 ·have:ps=[]:=am h0
  subst this
  exact⟨0,ae _,.inl ⟨rfl,none,rfl⟩⟩
 refine⟨cap,by rw[aj];exact hnc,.inr ⟨g,0,(bg.1 hh).1,by rw[aj],fun k hk=>?_⟩⟩
 have hk':k<ps.length:=by simpa using hk
 refine⟨ps[k].1,fun j x hj=>?_,?_⟩
 ·rw[bQ]at hj
  have hj8:j<8:=(be.1 hj).1
  have hf:=rV (fun p:Value×dm=>(aY p.1 p.2).toList) 8 ps (fun p _=>rfl) k j hk' hj8
  have:=h2.cells (g:=g) rfl (k*8+j) x (hf.trans hj)
  rw[addr_add,<-Nat.add_assoc]at this
  exact this
 rw[bQ]
 exact Sl.bL (cI (h3 ps[k] (bJ hk')))
theorem hs1 (u:Bytes):Lib.hasSuffix u [44]=qg u:=by
 cases hu:u.reverse with
 |nil =>
  have:u=[]:=by simpa using hu
  subst this
  decide
 |cons x r =>
  have:u=r.reverse++[x]:=by
   have:=congrArg List.reverse hu
   simpa using this
  rw[this,a4T]
  unfold qg
  rw[lU,decide_eq_decide,Yp]
  simp
theorem VC (u:Bytes) (w:World) (hu:u.length<=1024000000):Calls prog 39 #[.string (bs u),.string (bs [44])] w fun e w'=>e=.returned (.bool (qg u))∧w'=w:=by
 have h:=Any.strings_HasSuffix laysHS (bs u) (bs [44]) w (by rw[aB];omega)
 rw[show(bs u).data.toList=u from du u,show(bs [44]).data.toList=[44]from du _,hs1]at h
 exact h
theorem Wv (u:Bytes) (w:World) (hu:u.length<=1024000000):Calls prog 40 #[.string (bs u),.string (bs [44])] w fun e w'=>e=.returned (S (iG u))∧Below w.heap.size w w':=by
 have h116:(prog.info? (laysTR_ren.t 116)).map (fun i=>(i.zero,i.size))=some (some (.agg (Array.replicate 256 (.bool false))),256):=by kernel_rfl
 have h:=Any.strings_TrimRight_laid laysTR h116 (bs u) (bs [44]) w (by rw[aB];omega) (by decide) (ascii_of_all (by decide))
 rw[show(bs u).data.toList=u from du u,show(bs [44]).data.toList=[44]from du _]at h
 refine h.mono ?_
 rintro e w' ⟨rfl,hb⟩
 refine⟨?_,hb⟩
 have e1:Lib.trimRightS u [44]=iG u:=by
  unfold Lib.trimRightS iG
  congr 2
  funext x
  by_cases hx:x=44 <;>simp[hx]
 rw[e1]
 rfl
section
variable {ops:Array Oper} {rest:List Oper} {o:Oper} {a:Act} {w:World} {Q:Exit->Act->World->Prop}
theorem Yt (wv:Value) (c:dm) (w:World):(Instr.buildSlice 38 1 #[(0,.agg (aY wv c))]).run prog w=.ok (.slice (some ⟨w.heap.size,0,none⟩) 1 1) (w.alloc (.cells (aY wv c) 45)):=by kernel_rfl
theorem Ev (hg:o.guard=none) (y:Operand) (ho:o.op=.buildSlice 38 1 #[(0,y)]) (wv:Value) (c:dm) (hy:a.eval y=.agg (aY wv c))
  (h:wpList prog ops Q rest (a.put o.dst (.slice (some ⟨w.heap.size,0,none⟩) 1 1)) (w.alloc (.cells (aY wv c) 45))):wpList prog ops Q (o::rest) a w:=by
 refine wpList_plain hg fun K hK=>?_
 unfold Oper.wp execOp
 have e:(#[(0,y)]:Array (Nat×Operand)).map (fun(i,x)=>(i,a.eval x))=#[(0,.agg (aY wv c))]:=by simp[hy]
 simp only[ho,Sem.run_bind,Sem.run_pure,Result.andThen_ok,e,Yt]
 exact hK _ _ h
theorem Ti (hgd:o.guard=none) (s x:Operand) (ho:o.op=.call {callee:=.builtin .append,args:=#[s,x],argTypes:=#[38,38]})
  (base:Nat) {v wv:Value} {l:List dm} {c:dm} (hs:a.eval s=v) (hown:jf w base v l) (hw:w.ownsRow base 9 1 wv c.words.length (Strs c.words)) (hx:a.eval x=.slice (some ⟨w.heap.size,0,none⟩) 1 1)
  (h63:l.length+1<=1099511627776) (hbase:base<=w.heap.size)
  (h:∀ v' w',jf w' base v' (l++[c])->Below base w w'->wpList prog ops Q rest (a.put o.dst v') w') :
  wpList prog ops Q (o::rest) a (w.alloc (.cells (aY wv c) 45)):=by
 obtain⟨i,hi,hz,hz1,hz2⟩:=info_parts Gi
 obtain⟨ps,rfl,h2,h3⟩:=hown
 rw[aj]at h63
 have hb0:Below w.heap.size w (w.alloc (.cells (aY wv c) 45)):=(Below.refl _ _).alloc (ae _) _
 refine wpList_append_own_at _ hgd s x _ ho base 45 i _ 8 88 underlying38 hi hz hz1 hz2 (by rfl) (by decide) v ps.length _ hs (h2.alloc _) ⟨w.heap.size,0,none⟩ 1 1 (aY wv c).toList hx rfl ?_ (Ew (aS hw)) (by unfold maxLen;omega) (by omega) (aq hbase hb0.size) ?_
 ·intro j u hj
  rw[addr_add,bk]
  have hj2:(aY wv c)[j]? = some u:=by rw[<-Array.getElem?_toList];exact hj
  rw[World.cell?_alloc_mark]
  exact hj2
 intro v' w' ho' hg _ _
 have hkeep:∀ {u:Value} {ws:List Bytes},w.ownsRow base 9 1 u ws.length (Strs ws)->w'.ownsRow base 9 1 u ws.length (Strs ws):=by
  intro u ws hu
  have hu1:=own_below' hu hb0
  refine⟨hu1.1,?_⟩
  rcases hu1.2 with h0|⟨g,cap,cur,e1,hgb,hh,hr⟩
  ·exact .inl h0
  refine .inr ⟨g,cap,cur,e1,hgb,(hg.block g (bg.1 hh).1 fun e=>?_).trans hh,hr⟩
  exact Nt hu1 (h2.alloc (.cells (aY wv c) 45)) (by decide) g (by rw[e1];rfl) e.symm
 refine h v' w' ⟨ps++[(wv,c)],by simp,?_,?_⟩ ?_
 ·rw[af,dP]
  simpa using ho'
 ·intro p hp
  rcases bl.mp hp with hp|hp
  ·exact hkeep (h3 p hp)
  obtain rfl:p=(wv,c):=by simpa using hp
  exact hkeep hw
 exact((hb0.mono hbase)).grown hg (aq hbase hb0.size) (fun k hk=>(h2.lt k hk).1)
end
end Go.Proofs.YtmndlfglgcioeaaGreatDoor
