/- Joined texts. -/
import Derived.WalkMore
import Derived.Test.YtmndlfglgcioeaaGreatDoorEGFloA
import Derived.Test.YtmndlfglgcioeaaGreatDoorEGWlkY
set_option maxHeartbeats 40000000
namespace Go.Proofs.YtmndlfglgcioeaaGreatDoor
open Tryz
open Go.RowKit
set_option maxRecDepth 10000
theorem Z6{x:UInt8}(r:Bytes)(h:b2 x<0x80):dr (x::r)=(x.toNat,1):=by
 have hn:=xg r h;rcases mI x r with⟨h1,h2,h3,h4,h5,_⟩|⟨h1,_⟩
 ·rw[hn]at h3
  have hN:dL (x::r)=1:=by unfold dL;rw[hn];rfl
  rw[hN]at h2;have h3':(dr (x::r)).1=x.toNat:=by unfold b2 at h3;simp only at h3;omega
  exact Prod.ext h3' h2
 rw[hn]at h1;cases h1
theorem a31{x:UInt8}(r:Bytes)(h:0x80<=b2 x):((dr (x::r)).1=65533∨(128<=(dr (x::r)).1∧Utf8.valid ((dr (x::r)).1:Int)=true))∧∀ y∈(x::r).take (dr (x::r)).2,0x80<=b2 y:=by
 have ht:=Hh r h;have hN:=nB x r;rcases mI x r with⟨h1,h2,h3,h4,h5,h6⟩|⟨h1,h2,h3,h4,h5⟩
 ·rw[h2]
  refine⟨.inr ⟨?_,by rw[h3];exact h6⟩,ht⟩;rcases cZ (dr (x::r)).1 128 with hlt|hge
  ·rw[<-h3,rE (by omega) (by omega)]at h4
   obtain⟨j,hj⟩:∃ j,dL (x::r)=j+1:=⟨dL (x::r)-1,by omega⟩;rw[hj,cY]at h4;injection h4 with e1 _
   rw[<-e1]at h;unfold b2 at h;rw[ck (by omega)]at h;omega
  exact hge
 refine⟨.inl h3,?_⟩;rw[h4];intro y hy;obtain rfl:y=x:=by simpa using hy
 exact h
def GE(c:Int):Int:=if c=101 then 0 else if c=69 then 1 else -1
theorem a0v:∀ k:Fin 128,Lib.indexByte [101,69] (((k.val:Nat):Int).toNat.toUInt8)=GE (k.val:Int):=by decide +kernel
theorem a0Z(c:Int)(w:World)(h0:0<=c)(h1:c<128):bN prog 140 #[.string ⟨#[101,69]⟩,.int .i32 c] w (.int .i64 (GE c)):=by
 have hk:=a0v ⟨c.toNat,by omega⟩;have e:((c.toNat:Nat):Int)=c:=by omega
 simp only[e]at hk;refine(Any.strings_IndexRune_ascii {laysIA with} ⟨#[101,69]⟩ c w h0 h1).mono ?_;rintro e w' ⟨rfl,rfl⟩;exact⟨by rw[<-hk],Below.refl _ _⟩
theorem a32:∀ k:Fin 2,Utf8.decode ⟨#[101,69]⟩ k.val=(if k.val=0 then(101,1)else(69,1)):=by decide +kernel
theorem Ry(w:World):bN prog 140 #[.string ⟨#[101,69]⟩,.int .i32 65533] w (.int .i64 (-1)):=by
 go_enter func140,ntmps140
 go_wp2_with fail
 go_loopw [5,6] (fun _ _ wr=>∃ p:Nat,p<=2∧Hid (wr.heap[w.heap.size]? = some (.stringIter ⟨#[101,69]⟩ p))∧Hid (Below w.heap.size w wr)) (fun _ _ wr=>2-wr.iterPos w.heap.size)
 case atStart=>exact⟨0,by omega,World.iter_heap _ _ _,(Below.refl _ _).alloc (af _) _⟩
 case round =>
  obtain⟨p,hp,HI,HB⟩:=hrel;by_cases hlt:p<2
  ·have hnx:∀ ty,(Instr.next (.pointer (some ⟨w.heap.size,0,none⟩)) true ty).run prog wr=_:=fun ty=>Lib.run_next_any_at wr w.heap.size ⟨#[101,69]⟩ p ty HI.out hlt
   have hd:=a32 ⟨p,hlt⟩;have QO:=Lib.iterAt_heap wr w.heap.size ⟨#[101,69]⟩ p (p+1) HI.out;have JJ:=Lib.below_iterAt (HB.out) (k:=w.heap.size) (af _) ⟨#[101,69]⟩ (p+1);have hpos:wr.iterPos w.heap.size=p:=iterPos_of HI.out;have hp2:p=0∨p=1:=by omega
   simp only at hd;have h1:(Utf8.decode ⟨#[101,69]⟩ p).2=1:=by rw[hd];split <;>rfl
   have h2:(Utf8.decode ⟨#[101,69]⟩ p).1=101∨(Utf8.decode ⟨#[101,69]⟩ p).1=69:=by rw[hd];split <;>simp
   obtain⟨rn,hrn⟩:=az ((Utf8.decode ⟨#[101,69]⟩ p).1);rw[h1,<-hrn]at hnx;rw[<-hrn]at h2;clear hrn hd h1;obtain⟨wi,hwi⟩:=az (wr.iterAt w.heap.size ⟨#[101,69]⟩ (p+1));rw[<-hwi]at QO JJ hnx;have Co:=h_ QO;clear QO;have vj:=h_ JJ;clear JJ;have Li:=h_ hpos;clear hpos;clear hwi;have hne:((rn:Int)==65533)=false:=by rcases h2 with rfl|rfl <;>rfl
   have hrk:((rn:Nat):Int)<128:=by omega
   go_wp2_with fail
   go_roundw
   case rel=>exact⟨p+1,by omega,Co.out,vj.out⟩
   case measure =>
    have e2:wi.iterPos w.heap.size=p+1:=iterPos_of Co.out;rw[e2,Li.out];omega
  obtain rfl:p=2:=by omega
  have hnx:∀ ty,(Instr.next (.pointer (some ⟨w.heap.size,0,none⟩)) true ty).run prog wr=_:=fun ty=>Lib.run_next_end_at wr w.heap.size ⟨#[101,69]⟩ 2 ty HI.out (by decide)
  go_wp2_with fail
  go_ret;exact⟨rfl,HB.out⟩
theorem a1Q(c:Int)(w:World)(_:128<=c)(hv:Utf8.valid c=true):bV prog 172 #[.int .i32 c] w (.bool true):=by
 rcases(dG c).mp hv with⟨h1,h2⟩|⟨h1,h2⟩
 ·go_enter func172,ntmps172
  go_wp2_with fail
  go_ret;exact⟨rfl,rfl⟩
 have h3:¬ c<55296:=by omega
 have h4:(57343:Int)<c:=by omega
 go_enter func172,ntmps172
 go_wp2_with fail
 go_ret;exact⟨rfl,rfl⟩
theorem Qo{c:Int}(h:128<=c)(hv:Utf8.valid c=true):(∃a b:UInt8,Utf8.encode c=⟨#[a,b]⟩∧128<=a.toNat∧128<=b.toNat)∨3<=(Utf8.encode c).size:=by
 have hb:bs (enc c)=Utf8.encode c:=ql _;rcases(dG c).mp hv with h1|h1
 ·by_cases h2:c<0x800
  ·left
   rw[vQ (by omega) h2]at hb;exact⟨_,_,hb.symm,by rw[ck (by omega)];omega,by rw[ck (by omega)];omega⟩
  right
  rw[<-hb,rF (by omega) (by omega) (by omega),aM];simp
 right
 by_cases h2:c<0x10000
 ·rw[<-hb,rF (by omega) (by omega) (by omega),aM];simp
 rw[<-hb,vR (by omega) (by omega),aM];simp
theorem a5s(c:Int)(w:World)(h:128<=c)(hne:c≠65533)(hv:Utf8.valid c=true)(hm:c<2147483648):bN prog 140 #[.string ⟨#[101,69]⟩,.int .i32 c] w (.int .i64 (-1)):=by
 have hvr:=fun W=>a1Q c W h hv;have hib:∀ (d:Int) W,bV prog 81 #[.string ByteArray.empty,.int .u8 d] W (.int .i64 (-1)):=fun d W=>(Any.strings_IndexByte laysIB ByteArray.empty d W);have HVR:=h_ hvr;clear hvr;have Oc:=h_ hib;clear hib;have hne1:(c==65533)=false:=by simpa using hne
 have h128:¬ c<128:=by omega
 have h00:(0:Int)<=c:=by omega
 rcases Qo h hv with⟨a,b,he,ha,hb⟩|h3
 ·have b3q:(((69:UInt8).toNat:Int)==(b.toNat:Int))=false:=by
   have:(69:UInt8).toNat=69:=rfl;rw[beq_eq_false_iff_ne,this];omega
  have a4q:((69:Int)==(b.toNat:Int))=false:=by rw[beq_eq_false_iff_ne];omega
  have a4N:((69:Int) != (b.toNat:Int))=true:=by unfold bne;rw[a4q];rfl
  have hix:((((⟨#[101,69]⟩:ByteArray)[1]'(by decide)).toNat:Int) != (((⟨#[a,b]⟩:ByteArray)[1]'(by exact Nat.lt_of_lt_of_eq (by omega) (show 2=(⟨#[a,b]⟩:ByteArray).size from rfl))).toNat:Int))=true:=a4N;have hw2:IntKind.i64.wrap 2=2:=by decide
  clear hv h hne ha hb;go_enter func140,ntmps140
  go_wp2_with (first|(go_at_call 172;refine(HVR.out _).mono ?_;rintro e w2 ⟨rfl,hw⟩;subst hw)|fail)
  refine wp_scope_straight ?_
  go_wp2_with fail
  refine wp_loop_rounds 1 ?_;rw[rounds_succ]
  go_wp2_with fail
  refine wp_scope_straight ?_
  go_wp2_with fail
  go_quiet (fail)
  have HB3:=h_ (ei (Below.refl w2.heap.size w2) nq);generalize w2.drewN nq=w3 at HB3 ⊢
  go_wp2_with fail
  go_quiet ((go_at_call 81;exact Calls.quiet_of_same (Oc.out _ _)))
  go_wp2_with fail
  simp only[Exit.noGoto,Exit.inBlock,Exit.then];go_ret;exact⟨rfl,ei HB3.out _⟩
 obtain⟨L,hL⟩:=az ((Utf8.encode c).size);rw[<-hL]at h3;have hLs:(Utf8.encode c).size=L:=hL.symm
 have hLm:L<=4:=by
  have:=(ns c).2;unfold enc at this;rw[fx]at this;omega
 have hw1:IntKind.i64.wrap ((L:Int)-1)=(L:Int)-1:=IntWalk.i64_in _ (by omega);have hlt:¬ ((L:Int)-1)<2:=by omega
 clear hv h hne hL;go_enter func140,ntmps140
 go_wp2_with (first|(go_at_call 172;refine(HVR.out _).mono ?_;rintro e w2 ⟨rfl,hw⟩;subst hw)|fail)
 refine wp_scope_straight ?_
 go_wp2_with fail
 refine wp_loop_rounds 1 ?_;rw[rounds_succ]
 go_wp2_with fail
 simp only[Exit.noGoto,Exit.inBlock];go_ret;exact⟨rfl,Below.refl _ _⟩
def od(l:Bytes):Int:=if l.dropWhile nE=[]then -1 else((l.takeWhile nE).length:Int)
theorem Ro{A B:Bytes}{x:UInt8}(hp:∀ y∈A,nE y=true)(hx:nE x=false):od (A++x::B)=(A.length:Int):=by
 unfold od;rw[re (p:=nE) _ hp,sK (p:=nE) _ hp,iE hx,if_neg (by simp),aX (by rw[hx];simp),aG]
theorem Rp{l:Bytes}{p:Nat}(h:p<l.length)(hp:∀ y∈l.take p,nE y=true)(hx:nE (l[p]'h)=false):od l=(p:Int):=by
 have e:=Ro (B:=l.drop (p+1)) hp hx;rw[<-List.drop_eq_getElem_cons h,cX,aE]at e;rw[e];omega
theorem Mv{l:Bytes}(hp:∀ y∈l,nE y=true):od l=-1:=by
 have:l.dropWhile nE=[]:=by
  have:=sK (p:=nE) (d:=l) [] hp
  simpa using this
 unfold od;rw[if_pos this]
theorem YE(x:UInt8):nE x=!(decide (b2 x=101)||decide (b2 x=69)):=kh (P:=fun x=>nE x=!(decide (b2 x=101)||decide (b2 x=69))) (by decide +kernel) x
theorem qt:∀ l:Bytes,Lib.indexAny l [101,69]=od l
 | []=>rfl
 |x::r=>by
  have ih:=qt r;have hge:=Lib.indexAny_ge [101,69] r;unfold Lib.indexAny;rw[ih];have hc:([101,69]:List UInt8).contains x=!(nE x):=kh (P:=fun x=>([101,69]:List UInt8).contains x=!(nE x)) (by decide +kernel) x;rw[hc];cases hn:nE x with
  |false =>
   rw[if_pos (show(!false)=true from rfl)];unfold od;rw[iE hn,if_neg (by simp),aX (by rw[hn];simp)];rfl
  |true =>
   rw[if_neg (by simp)];unfold od;rw[aU hn,aY hn];by_cases h:r.dropWhile nE=[]
   ·rw[if_pos h,if_pos h];rfl
   rw[if_neg h,if_neg h,if_neg (by simp),ag];omega
theorem Xp(n:Int)(w:World)(h:n<=8):bV prog 173 #[.int .i64 n] w (.bool false):=by
 refine(Any.strings_shouldUseASCIISet {laysIA with} n w).mono ?_;rintro e w' ⟨rfl,rfl⟩;exact⟨by rw[decide_eq_false (by omega)],rfl⟩
theorem Mw(l:Bytes)(w:World)(hl:l.length<=8):bN prog 141 #[.string (bs l),.string ⟨#[101,69]⟩] w (.int .i64 (od l)):=by
 obtain⟨R,hR⟩:=az (od l);rw[<-hR];have HR:=h_ hR;clear hR;have hdd:=tM l;obtain⟨t,ht⟩:=az (bs l);have hsz:t.size=l.length:=by rw[ht,aM]
 rw[<-ht]at hdd ⊢;clear ht;obtain⟨N,hN⟩:=az (t.size);have Re:t.size=N:=hN.symm;have hN8:(N:Int)<=8:=by omega
 have fL:=h_ (show N=l.length by omega);have HDD:=h_ hdd;have HSU:=h_ (fun W=>Xp (N:Int) W hN8);clear hN hsz hdd hl;go_enter func141,ntmps141
 go_wp2_with (first|(go_at_call 173;refine(HSU.out _).mono ?_;rintro e w2 ⟨rfl,hw⟩;subst w2)|fail)
 go_loopw [9,10] (fun _ _ wr=>∃ p:Nat,p<=N∧Hid (wr.heap[w.heap.size]? = some (.stringIter t p))∧Hid (Below w.heap.size w wr)∧Hid (w.heap.size<wr.heap.size)∧Hid (∀y∈l.take p,nE y=true)) (fun _ _ wr=>N-wr.iterPos w.heap.size)
 case atStart=>exact⟨0,by omega,World.iter_heap _ _ _,(Below.refl _ _).alloc (af _) _,h_ (by simp[World.iter]),fun y hy=>by simp at hy⟩
 case round =>
  obtain⟨p,hp,HI,HB,HL,HP⟩:=hrel;by_cases hlt:p<N
  ·have hnx:∀ ty,(Instr.next (.pointer (some ⟨w.heap.size,0,none⟩)) true ty).run prog wr=_:=fun ty=>Lib.run_next_any_at wr w.heap.size t p ty HI.out (by omega)
   have hpl:p<l.length:=by have:=fL.out;omega
   rw[HDD.out p]at hnx;have hx:=aq hpl;rw[hx]at hnx;have hn:=oF l[p] (l.drop (p+1));have hr1:=Gk (l[p]::l.drop (p+1));have hlen:(l.drop (p+1)).length+1=N-p:=by rw[ah];have:=fL.out;omega
   have hasc:=fun(ha:b2 l[p]<0x80)=>Z6 (x:=l[p]) (l.drop (p+1)) ha;have hhi:=fun(ha:0x80<=b2 l[p])=>a31 (x:=l[p]) (l.drop (p+1)) ha;have hnE:=YE l[p];have wJ:=jr l[p];have hhit:=fun(ha:nE l[p]=false)=>Rp hpl HP.out ha
   have htake:∀ k,1<=k->(∀y∈(l[p]::l.drop (p+1)).take k,nE y=true)->∀ y∈l.take (p+k),nE y=true:=by
    intro k _ h y hy;rw[<-hx]at h;rw[List.take_add]at hy;rcases au.mp hy with hy|hy
    ·exact HP.out y hy
    exact h y hy
   obtain⟨rn,sz,hD⟩:∃ rn sz,dr (l[p]::l.drop (p+1))=(rn,sz):=⟨_,_,rfl⟩;rw[hD]at hnx hn hr1 hasc hhi;simp only at hnx hn hr1 hhi;have QO:=Lib.iterAt_heap wr w.heap.size t p (p+sz) HI.out;have hIS:=Lib.iterAt_size wr w.heap.size t (p+sz);have JJ:=Lib.below_iterAt (HB.out) (k:=w.heap.size) (af _) t (p+sz);obtain⟨wi,hwi⟩:=az (wr.iterAt w.heap.size t (p+sz));rw[<-hwi]at QO hIS JJ hnx;have hpos:wr.iterPos w.heap.size=p:=iterPos_of HI.out;have hlt2:w.heap.size<wi.heap.size:=by rw[hIS];exact HL.out
   have Co:=h_ QO;clear QO;have vj:=h_ JJ;clear JJ hIS;have Li:=h_ hpos;clear hpos;have lZ:=h_ hlt2;clear hwi hD hx HI HB HL HP hlt2;have hps:p+sz<=N:=by omega
   by_cases ha:b2 l[p]<0x80
   ·have e:=hasc ha
    have e1:rn=l[p].toNat:=congrArg Prod.fst e;have e2:sz=1:=congrArg Prod.snd e;subst e2;have hrb:(rn:Int)=b2 l[p]:=by rw[e1];rfl
    have HIR:=h_ (fun W=>a0Z (rn:Int) W (by omega) (by omega));have yr:=h_ (htake 1 (af _));cases hq:nE l[p]with
    |false =>
     have hR2:R=(p:Int):=by rw[HR.out];exact hhit hq
     have hge:¬ (GE (rn:Int))<0:=by
      rw[hnE,<-hrb]at hq;unfold GE;by_cases h1:(rn:Int)=101
      ·rw[if_pos h1];omega
      by_cases h2:(rn:Int)=69
      ·rw[if_neg h1,if_pos h2];omega
      simp[h1,h2]at hq
     subst hR2;generalize GE (rn:Int)=hv at HIR hge;have Q5:(0:Int)<=hv:=by omega
     clear hasc hhi hhit htake hnE hq wJ hlen hn e e1 hrb ha yr
     go_wp2_with (first|(go_at_call 140;refine(HIR.out _).mono ?_;rintro e w2 ⟨rfl,hb⟩;have HB2:=h_ hb;clear hb)|fail)
     go_ret;exact⟨rfl,vj.out.trans (HB2.out.mono (ym lZ.out))⟩
    |true =>
     have hge:GE (rn:Int)=-1:=by
      rw[hnE,<-hrb]at hq;unfold GE;by_cases h1:(rn:Int)=101
      ·simp[h1]at hq
      by_cases h2:(rn:Int)=69
      ·simp[h2]at hq
      rw[if_neg h1,if_neg h2]
     rw[hge]at HIR;have Zr:=h_ (yr.out (fun y hy=>by rw[bE.mp (show y ∈ [l[p]]from hy)];exact hq));clear hasc hhi hhit htake hnE hq wJ hlen hn e e1 hrb ha yr hge
     go_wp2_with (first|(go_at_call 140;refine(HIR.out _).mono ?_;rintro e w2 ⟨rfl,hb⟩;have HB2:=h_ hb;clear hb)|fail)
     go_roundw
     case rel=>exact⟨p+1,by omega,(HB2.out.block _ lZ.out).trans Co.out,vj.out.trans (HB2.out.mono (ym lZ.out)),aQ lZ.out HB2.out.size,Zr.out⟩
     case measure =>
      have e2:w2.iterPos w.heap.size=p+1:=iterPos_of ((HB2.out.block _ lZ.out).trans Co.out);rw[e2,Li.out];omega
   obtain⟨h1,h2⟩:=hhi (by omega)
   have a4G:∀ W,bN prog 140 #[.string ⟨#[101,69]⟩,.int .i32 rn] W (.int .i64 (-1)):=by
    intro W;rcases h1 with h1|⟨h1,h3⟩
    ·subst h1;exact Ry W
    by_cases h4:rn=65533
    ·subst h4;exact Ry W
    exact a5s (rn:Int) W (by omega) (by omega) h3 (by omega)
   have HIR:=h_ a4G
   have Zr:=h_ (htake sz hn.1 (fun y hy=>by
    have:=h2 y hy;rw[YE];have a1:¬ b2 y=101:=by omega
    have a2:¬ b2 y=69:=by omega
    simp[a1,a2]))
   have hn1:=hn.1;clear hasc hhi hhit htake hnE wJ hlen hn ha h1 h2 a4G
   go_wp2_with (first|(go_at_call 140;refine(HIR.out _).mono ?_;rintro e w2 ⟨rfl,hb⟩;have HB2:=h_ hb;clear hb)|fail)
   go_roundw
   case rel=>exact⟨p+sz,by omega,(HB2.out.block _ lZ.out).trans Co.out,vj.out.trans (HB2.out.mono (ym lZ.out)),aQ lZ.out HB2.out.size,Zr.out⟩
   case measure =>
    have e2:w2.iterPos w.heap.size=p+sz:=iterPos_of ((HB2.out.block _ lZ.out).trans Co.out);rw[e2,Li.out];omega
  obtain rfl:p=N:=by omega
  have hnx:∀ ty,(Instr.next (.pointer (some ⟨w.heap.size,0,none⟩)) true ty).run prog wr=_:=fun ty=>Lib.run_next_end_at wr w.heap.size t p ty HI.out (by omega)
  have hR2:R=-1:=by
   rw[HR.out];refine Mv fun y hy=>HP.out y ?_;rw[aP (by have:=fL.out;omega)];exact hy
  subst hR2
  go_wp2_with fail
  go_ret;exact⟨rfl,HB.out⟩
theorem Wk(l:Bytes)(w:World)(hl:l.length<=1024000000):bN prog 141 #[.string (bs l),.string (bs [101,69])] w (.int .i64 (od l)):=by
 by_cases h8:l.length<=8
 ·exact Mw l w h8
 have h116:(prog.info? (laysIA_ren.t 116)).map (fun i=>(i.zero,i.size))=some (some (.agg (Array.replicate 256 (.bool false))),256):=by kernel_rfl
 have h:=Any.strings_IndexAny_long laysIA (zero_of_info h116).1 (zero_of_info h116).2 (bs l) (bs [101,69]) w (by decide) (by rw[aM];omega) (by rw[aM];omega) (by decide)
  (ascii_of_all (by decide))
 rw[show(bs l).data.toList=l from dR l,show(bs [101,69]).data.toList=[101,69]from dR _,qt]at h;refine h.mono ?_;rintro e w' ⟨rfl,rfl⟩;refine⟨rfl,?_⟩;have b1:∀ o,Below w.heap.size w (w.alloc o):=fun o=>(Below.refl w.heap.size w).alloc (af _) o;exact(b1 _).alloc (b1 _).size _

theorem pX{l:Bytes}{n:Int}(h:dk l=some n):0<=n∧n<=9223372036854775807:=by
 have key:∀ (l:Bytes) (m v:Int),0<=m∧m<=9223372036854775807->iJ m l=some v->0<=v∧v<=9223372036854775807:=by
  intro l
  induction l with
  |nil=>intro m v h1 h2;rw[iJ]at h2;cases h2;exact h1
  |cons c t ih =>
   intro m v h1 h2;rw[iJ]at h2
   split at h2
   ·cases h2
   next hd =>
   refine ih _ v ?_ h2;have:=Jy (b2 c)
   split <;>omega
 unfold dk at h
 split at h
 ·cases h
 exact key l 0 n (by omega) h
def Dz(s:Bytes):Bytes:=if s.head? = some 43 then s.drop 1 else s
theorem rJ(s:Bytes)(w:World)(hl:s.length<=1024000000) :
  bV prog 142 #[.string (bs s)] w (.tuple #[.int .i64 ((rI s).getD 0),.bool (rI s).isSome]):=by
 have hcp:=fun W=>vw s [45] W;rw[hp1,tp1]at hcp;by_cases h1:s.head? = some 45
 ·have hcp2:∀ W,bV prog 95 #[.string (bs s),.string (bs [45])] W (.tuple #[S (s.drop 1),.bool true]):=fun W=>by
   have:=hcp W;rw[if_pos h1,decide_eq_true h1]at this;exact this
  have md:=fun W=>k7 (s.drop 1) W (by rw[ah];omega);have hE:rI s=if 4<(s.drop 1).length then none else(dk (s.drop 1)).map fun n=>-n:=by unfold rI;rw[if_pos h1]
  rw[hE];clear hE hcp h1;have hml:(s.drop 1).length<=1024000000:=by rw[ah];omega
  generalize s.drop 1=m at *;obtain⟨t,ht⟩:=az (bs s);obtain⟨u,hu⟩:=az (bs m);have Rf:u.size=m.length:=by rw[hu,aM]
  have FC:=h_ (show ∀W,bV prog 95 #[.string t,.string ⟨#[45]⟩] W (.tuple #[.string u,.bool true])from by rw[ht,hu];exact hcp2);have qA:=h_ (show ∀W,bV prog 111 #[.string u] W (.tuple #[.int .i64 ((dk m).getD 0),.bool (dk m).isSome])from by rw[hu];exact md);rw[<-ht];clear hcp2 md ht hu hl;obtain⟨N,hN⟩:=az (u.size);have huN:u.size=N:=hN.symm;rw[<-Rf,huN];have p7:N<=1024000000:=by omega
  clear hN Rf hml;by_cases h4:4<N
  ·rw[if_pos h4]
   have h4i:(4:Int)<(N:Int):=by omega
   go_enter func142,ntmps142
   go_wp2_with (first
    |(go_at_call 95;refine(FC.out _).mono ?_;rintro e w2 ⟨rfl,hw⟩;subst hw)
    |fail)
   go_ret2
   exact⟨rfl,rfl⟩
  rw[if_neg h4];have h4i:¬ (4:Int)<(N:Int):=by omega
  cases hR:dk m with
  |none =>
   have HW2:=h_ (show ∀W,bV prog 111 #[.string u] W (.tuple #[.int .i64 0,.bool false])from fun W=>by have:=qA.out W;rw[hR]at this;exact this);clear hR qA;go_enter func142,ntmps142
   go_wp2_with (first
    |(go_at_call 95;refine(FC.out _).mono ?_;rintro e w2 ⟨rfl,hw⟩;subst hw)
    |(go_at_call 111;refine(HW2.out _).mono ?_;rintro e w2 ⟨rfl,hw⟩;subst hw)
    |fail)
   go_ret2
   exact⟨rfl,rfl⟩
  |some n =>
   have hlim:=pX hR;have hng:IntKind.i64.wrap (-n)=-n:=IntWalk.i64_in _ (by omega);have HW2:=h_ (show ∀W,bV prog 111 #[.string u] W (.tuple #[.int .i64 n,.bool true])from fun W=>by have:=qA.out W;rw[hR]at this;exact this);clear hR qA;go_enter func142,ntmps142
   go_wp2_with (first
    |(go_at_call 95;refine(FC.out _).mono ?_;rintro e w2 ⟨rfl,hw⟩;subst hw)
    |(go_at_call 111;refine(HW2.out _).mono ?_;rintro e w2 ⟨rfl,hw⟩;subst hw)
    |fail)
   go_ret2
   exact⟨rfl,rfl⟩
 have hcp2:∀ W,bV prog 95 #[.string (bs s),.string (bs [45])] W (.tuple #[S s,.bool false]):=fun W=>by
  have:=hcp W;rw[if_neg h1,decide_eq_false h1]at this;exact this
 have htp:=fun W=>a1J s [43] W;rw[tp1]at htp;have hE:rI s=if 4<(Dz s).length then none else dk (Dz s):=by unfold rI Dz;rw[if_neg h1]
 have a48:∀ W,bV prog 174 #[.string (bs s),.string (bs [43])] W (S (Dz s)):=htp
 have hml:(Dz s).length<=1024000000:=by
  unfold Dz
  split
  ·rw[ah];omega
  exact hl
 have md:=fun W=>k7 (Dz s) W hml;rw[hE];clear hE hcp h1 htp;generalize Dz s=m at *;obtain⟨t,ht⟩:=az (bs s);obtain⟨u,hu⟩:=az (bs m);have Rf:u.size=m.length:=by rw[hu,aM]
 have FC:=h_ (show ∀W,bV prog 95 #[.string t,.string ⟨#[45]⟩] W (.tuple #[.string t,.bool false])from by rw[ht];exact hcp2);have HTP:=h_ (show ∀W,bV prog 174 #[.string t,.string ⟨#[43]⟩] W (.string u)from by rw[ht,hu];exact a48);have qA:=h_ (show ∀W,bV prog 111 #[.string u] W (.tuple #[.int .i64 ((dk m).getD 0),.bool (dk m).isSome])from by rw[hu];exact md);rw[<-ht];clear hcp2 md a48 ht hu hl;obtain⟨N,hN⟩:=az (u.size);have huN:u.size=N:=hN.symm;rw[<-Rf,huN];have p7:N<=1024000000:=by omega
 clear hN Rf hml;by_cases h4:4<N
 ·rw[if_pos h4]
  have h4i:(4:Int)<(N:Int):=by omega
  go_enter func142,ntmps142
  go_wp2_with (first
   |(go_at_call 95;refine(FC.out _).mono ?_;rintro e w2 ⟨rfl,hw⟩;subst hw)
   |(go_at_call 174;refine(HTP.out _).mono ?_;rintro e w2 ⟨rfl,hw⟩;subst hw)
   |fail)
  go_ret2
  exact⟨rfl,rfl⟩
 rw[if_neg h4];have h4i:¬ (4:Int)<(N:Int):=by omega
 generalize dk m=R at *;go_enter func142,ntmps142
 go_wp2_with (first
  |(go_at_call 95;refine(FC.out _).mono ?_;rintro e w2 ⟨rfl,hw⟩;subst hw)
  |(go_at_call 174;refine(HTP.out _).mono ?_;rintro e w2 ⟨rfl,hw⟩;subst hw)
  |(go_at_call 111;refine(qA.out _).mono ?_;rintro e w2 ⟨rfl,hw⟩;subst hw)
  |fail)
 go_ret2
 exact⟨rfl,rfl⟩

def s9(q:Bool)(p:Option (Int×Int)):Nat×Bool:=match p with
 |none=>(0,false)
 |some p=>(sN ⟨q,p.1,p.2⟩,true)
def DC(s:Bytes):Nat×Bool:=match Gs s with
 |none=>(0,false)
 |some f=>(sN f,true)
theorem VU(s:Bytes):DC s=s9 (decide (s.head? = some 45)) (sM (if s.head? = some 45 then s.drop 1 else s)):=by
 unfold DC Gs s9;by_cases h:s.head? = some 45
 ·rw[if_pos h,if_pos h,decide_eq_true h]
  cases sM (s.drop 1) <;>rfl
 rw[if_neg h,if_neg h,decide_eq_false h];cases sM s <;>rfl
theorem TE{t:Bytes}{e:UInt8}{u:Bytes}(h:t.dropWhile nE=e::u):t.take (t.takeWhile nE).length=t.takeWhile nE∧t.drop ((t.takeWhile nE).length+1)=u∧(t.takeWhile nE).length<t.length:=by
 have e1:t.takeWhile nE++t.dropWhile nE=t:=eT;rw[h]at e1;generalize t.takeWhile nE=A at *;subst e1;refine⟨jo rfl,?_,by rw[ae,ag];omega⟩;rw[show A++e::u=(A++[e])++u by simp];exact yt (by simp)
theorem VW{x w1 w2:Bytes}{pt:Bool}{m:Int}(h:bY 46 x=(w1,w2,pt)):DD x m=if(pt=true∧w2=[])∨15<w1.length+w2.length then none
 else match dk (w1++w2)with
  |none=>none
  |some n=>if m-(w2.length:Int) < -22∨22<m-(w2.length:Int)then none else some (n,m-(w2.length:Int)):=by
 unfold DD;simp only[h];rfl
theorem CW(c:UInt8):∀ (s:Bytes),(bY c s).1.length+(bY c s).2.1.length<=s.length
 | []=>af _
 |x::r=>by
  have ih:=CW c r;unfold bY
  split <;>(simp only[ag,aN];omega)
theorem KW{l:Bytes}{n:Int}(h:dk l=some n)(hl:l.length<=4):n<=9999:=by
 have key:∀ (l:Bytes) (m v:Int) (k:Nat),l.length=k->k<=4->0<=m->m<=10 ^ (4-k)-1->iJ m l=some v->v<=9999:=by
  intro l
  induction l with
  |nil=>intro m v k h1 h2 h3 h4 h5;rw[iJ]at h5;cases h5;simp at h1;subst h1;simpa using h4
  |cons c t ih =>
   intro m v k h1 h2 h3 h4 h5;rw[iJ]at h5;rw[ag]at h1
   split at h5
   ·cases h5
   next hd =>
   have hq:=Jy (b2 c)
   have hp:m<=9999:=by
    have:k=1∨k=2∨k=3∨k=4:=by omega
    rcases this with rfl|rfl|rfl|rfl <;>(simp at h4;omega)
   rw[if_neg (by omega)]at h5;refine ih _ v (k-1) (by omega) (by omega) (by omega) ?_ h5;have:k=1∨k=2∨k=3∨k=4:=by omega
   rcases this with rfl|rfl|rfl|rfl <;>(simp at h4 ⊢;omega)
 unfold dk at h
 split at h
 ·cases h
 exact key l 0 n l.length rfl hl (by omega) (by
  have:l.length=0∨l.length=1∨l.length=2∨l.length=3∨l.length=4:=by omega
  rcases this with h|h|h|h|h <;>rw[h] <;>decide) h
theorem VN{s:Bytes}{n:Int}(h:rI s=some n):-9999<=n∧n<=9999:=by
 have key:∀ {l:Bytes} {v:Int},(if 4<l.length then none else dk l)=some v->0<=v∧v<=9999:=by
  intro l v h
  split at h
  ·cases h
  next h4=>exact⟨(pX h).1,KW h (by omega)⟩
 unfold rI at h;by_cases h1:s.head? = some 45
 ·rw[if_pos h1]at h
  split at h
  ·cases h
  next h4 =>
  rw[dp]at h;obtain⟨v,h2,rfl⟩:=h;have:=pX h2;have:=KW h2 (by omega);omega
 rw[if_neg h1]at h;have:=key h;omega
theorem WE{P:Program}(W:World)(x:Nat):(Op.unary .neg (.float .f64 x)).run P W=.ok (.float .f64 (Op.negFloat .f64 x)) W:=rfl
theorem Sn(n:Int){m:Int}(h:-22<=m∧m<=22)(W:World):bV prog 143 #[.float .f64 (floatOfInt .f64 n),.int .i64 m] W (.float .f64 (moveB (floatOfInt .f64 n) m)):=So _ m W (a0Y n) h.1 h.2
theorem Me(s:Bytes)(w:World)(hl:s.length<=1024000000)(hE:Env w) :
  bN prog 112 #[.string (bs s)] w (.tuple #[.float .f64 (DC s).1,.bool (DC s).2]):=by
 rw[VU];have hcp:=fun W=>vw s [45] W;rw[hp1,tp1]at hcp
 have hxl:(if s.head? = some 45 then s.drop 1 else s).length<=1024000000:=by
  split
  ·rw[ah];omega
  exact hl
 generalize (if s.head? = some 45 then s.drop 1 else s)=a at *;generalize decide (s.head? = some 45)=q at *;have hia:=fun W=>Wk a W hxl;obtain⟨t0,ht0⟩:=az (bs s);obtain⟨t,ht⟩:=az (bs a);have FC:=h_ (show ∀W,bV prog 95 #[.string t0,.string ⟨#[45]⟩] W (.tuple #[.string t,.bool q])from by rw[ht0,ht];exact hcp);have Bb:∀ W,bN prog 141 #[.string t,.string ⟨#[101,69]⟩] W (.int .i64 (od a)):=by rw[ht];exact hia
 rw[<-ht0];clear hcp hia ht0 hl;have a0M:t.size=a.length:=by rw[ht,aM]
 have hcase:(a.dropWhile nE=[])∨(∃e u,a.dropWhile nE=e::u∧rI u=none)∨(∃e u m,a.dropWhile nE=e::u∧rI u=some m):=by
  cases h:a.dropWhile nE with
  |nil=>exact .inl rfl
  |cons e u =>
   cases h2:rI u with
   |none=>exact .inr (.inl ⟨e,u,rfl,h2⟩)
   |some m=>exact .inr (.inr ⟨e,u,m,rfl,h2⟩)
 rcases hcase with hA|⟨e0,u,hB,hB2⟩|⟨e0,u,M,hC,hC2⟩
 case inr.inl =>
  have hR:s9 q (sM a)=(0,false):=by unfold sM;rw[hB];simp only[hB2];rfl
  rw[hR];obtain⟨k1,k2,k3⟩:=TE hB;obtain⟨K,hK⟩:=az ((a.takeWhile nE).length);rw[<-hK]at k1 k2 k3;have hix:od a=(K:Int):=by unfold od;rw[hB,if_neg (by simp),hK]
  rw[hix]at Bb;have Wj:u.length<=1024000000:=by rw[<-k2,ah];omega
  have hex:=fun W=>rJ u W Wj;rw[hB2]at hex;obtain⟨N,hN⟩:=az (t.size);have Re:t.size=N:=hN.symm;obtain⟨K1,hK1e⟩:=az (K+1);have hcut:t.extract K1 N=bs u:=by rw[hK1e,ht,jy a (K+1) N (by omega),k2]
  obtain⟨tu,htu⟩:=az (bs u);rw[<-htu]at hcut hex;have Co:=h_ Bb;have Ob:=h_ hex;have hKN:K<N:=by omega
  have p7:N<=1024000000:=by omega
  have hw1:IntKind.i64.wrap ((K:Int)+1)=(K1:Int):=by rw[IntWalk.i64_in _ (by omega)];omega
  have hK1:K1<=N:=by omega
  clear hK1e;clear hix Bb hex hB hB2 hR k1 k2 k3 hK Wj htu ht a0M hxl hN;go_enter func112,ntmps112
  go_wp2_with (first
   |(go_at_call 95;refine(FC.out _).mono ?_;rintro e w2 ⟨rfl,hw⟩;subst w2)
   |(go_at_call 141;refine(Co.out _).mono ?_;rintro e wi ⟨rfl,hb⟩;have vk:=h_ hb;clear hb)
   |(go_at_call 142;refine(Ob.out _).mono ?_;rintro e w2 ⟨rfl,hw⟩;subst w2)
   |fail)
  go_ret2
  exact⟨rfl,vk.out⟩
 case' inl =>
  obtain⟨M,hM⟩:∃ M:Int,M=0:=⟨0,rfl⟩;have hMl:-9999<=M∧M<=9999:=by omega
  have hR:s9 q (sM a)=s9 q (DD a M):=by unfold sM;rw[hA,hM]
  have HM0:=h_ hM;clear hM;have hix:od a=-1:=by unfold od;rw[if_pos hA]
  rw[hR];rw[hix]at Bb;have Co:=h_ Bb;obtain⟨x,hx⟩:=az (a);obtain⟨T,hT⟩:=az (t);have Zs:=h_ (show T=bs x by rw[hT,hx,ht]);have a5g:x.length<=1024000000:=by rw[hx];exact hxl
  rw[<-hx];rw[<-hT]at Co FC;clear hR hix Bb hA ht a0M hxl hx hT;go_enter func112,ntmps112
  go_upto_region 9 with(first
   |(go_at_call 95;refine(FC.out _).mono ?_;rintro e w2 ⟨rfl,hw⟩;subst w2)
   |(go_at_call 141;refine(Co.out _).mono ?_;rintro e wi ⟨rfl,hb⟩;have vk:=h_ hb;clear hb)
   |(go_at_call 142;refine(Ob.out _).mono ?_;rintro e w2 ⟨rfl,hw⟩;subst w2)
   |fail)
 case' inr.inr =>
  obtain⟨k1,k2,k3⟩:=TE hC;have hR:s9 q (sM a)=s9 q (DD (a.takeWhile nE) M):=by unfold sM;rw[hC];simp only[hC2]
  rw[hR];obtain⟨x,hx⟩:=az (a.takeWhile nE);rw[<-hx]at k1 k2 k3 ⊢;obtain⟨K,hK⟩:=az (x.length);rw[<-hK]at k1 k2 k3;have hix:od a=(K:Int):=by unfold od;rw[hC,if_neg (by simp),<-hx,hK]
  rw[hix]at Bb;have Wj:u.length<=1024000000:=by rw[<-k2,ah];omega
  have hex:=fun W=>rJ u W Wj;rw[hC2]at hex;have hMl:=VN hC2;obtain⟨N,hN⟩:=az (t.size);have Re:t.size=N:=hN.symm;obtain⟨K1,hK1e⟩:=az (K+1);have hcut:t.extract K1 N=bs u:=by rw[hK1e,ht,jy a (K+1) N (by omega),k2]
  obtain⟨T,hT⟩:=az (bs x);have b1f:t.extract 0 K=T:=by rw[ht,sL,k1,hT]
  have Zs:=h_ hT;obtain⟨tu,htu⟩:=az (bs u);rw[<-htu]at hcut hex;have Co:=h_ Bb;have Ob:=h_ (show ∀W,bV prog 142 #[.string tu] W (.tuple #[.int .i64 M,.bool true])from hex);have hKN:K<N:=by omega
  have p7:N<=1024000000:=by omega
  have a5g:x.length<=1024000000:=by omega
  have hw1:IntKind.i64.wrap ((K:Int)+1)=(K1:Int):=by rw[IntWalk.i64_in _ (by omega)];omega
  have hK1:K1<=N:=by omega
  clear hK1e;have hK0:K<=N:=by omega
  clear hix Bb hex hC hC2 hR k1 k2 k3 hx hK Wj htu ht a0M hxl hN hT;go_enter func112,ntmps112
  go_upto_region 9 with(first
   |(go_at_call 95;refine(FC.out _).mono ?_;rintro e w2 ⟨rfl,hw⟩;subst w2)
   |(go_at_call 141;refine(Co.out _).mono ?_;rintro e wi ⟨rfl,hb⟩;have vk:=h_ hb;clear hb)
   |(go_at_call 142;refine(Ob.out _).mono ?_;rintro e w2 ⟨rfl,hw⟩;subst w2)
   |fail)
 all_goals
  have hTx:=Zs.out;obtain⟨p1,p2,pt,hcut⟩:∃ a b c,bY 46 x=(a,b,c):=⟨_,_,_,rfl⟩;have hcl:=CW 46 x;rw[hcut]at hcl;simp only at hcl;have hf:=VW (m:=M) hcut;have hsc:=fun W (hb:Below w.heap.size w W)=>jE x [46] W a5g (hE.below hb);rw[Ed,hcut]at hsc;simp only at hsc;have md:=fun W=>k7 (p1++p2) W (by rw[ae];omega);have Gy:=sH p1 p2;obtain⟨U,hU⟩:=az (bs (p1++p2));rw[<-hU]at md Gy;obtain⟨U1,hU1⟩:=az (bs p1);obtain⟨U2,hU2⟩:=az (bs p2);have hs1:U1.size=p1.length:=by rw[hU1,aM]
  have hs2:U2.size=p2.length:=by rw[hU2,aM]
  have hemp:U2.toList=[] ↔ p2=[]:=by rw[hU2,ay]
  have uL:=h_ (show ∀W,Below w.heap.size w W->bN prog 68 #[.string T,.string ⟨#[46]⟩] W (.tuple #[.string U1,.string U2,.bool pt])from by rw[hTx,hU1,hU2];exact hsc);rw[<-hU1,<-hU2]at Gy;clear hsc hU hU1 hU2 hcut hTx;obtain⟨N1,hN1⟩:=az (U1.size);obtain⟨N2,hN2⟩:=az (U2.size);have a87:U1.size=N1:=hN1.symm;have a88:U2.size=N2:=hN2.symm;rw[<-hs1,<-hs2,a87,a88]at hf;have ou:N1<=1024000000∧N2<=1024000000:=by omega
  have hsum:IntKind.i64.wrap ((N1:Int)+(N2:Int))=(N1:Int)+(N2:Int):=IntWalk.i64_in _ (by omega);have hcz:¬ 9223372036854775807<N1+N2:=by omega
  have hcz2:¬ 9223372036854775807<U1.size+U2.size:=by omega
  obtain⟨K,hK⟩:∃ K:Int,K=M-(N2:Int):=⟨_,rfl⟩;have hwk:IntKind.i64.wrap (M-(N2:Int))=K:=by rw[hK];exact IntWalk.i64_in _ (by omega)
  have a5c:IntKind.i64.wrap (-(N2:Int))=-(N2:Int):=IntWalk.i64_in _ (by omega);have a5d:M-(N2:Int)=K:=hK.symm;rw[<-hK]at hf
  try (have hM:=HM0.out;subst hM;have b31:-(N2:Int)=K:=by omega)
  clear hcl hs1 hs2 hN1 hN2 hK;by_cases hz:pt=true∧p2=[]
  ·rw[if_pos (.inl hz)]at hf
   obtain⟨rfl,hz2⟩:=hz;have he:=hemp.mpr hz2;have he1:U2.toList.isEmpty=true:=by simpa using he
   have HF:=h_ (congrArg (s9 q) hf);clear hf hemp hz2 md Gy hsum hcz hcz2 hwk a5c a5d
   go_wp2_with (first
    |(go_at_call 68;refine(uL.out _ vk.out).mono ?_;rintro e w5 ⟨rfl,hb⟩;have gH:=h_ (iK vk.out hb);clear hb)
    |fail)
   all_goals
    go_ret2
    exact⟨by rw[HF.out];rfl,gH.out⟩
  have hpt:pt=false∨(pt=true∧p2 ≠ []):=by
   cases pt with
   |false=>exact .inl rfl
   |true=>exact .inr ⟨rfl,fun h=>hz ⟨rfl,h⟩⟩
  have hpe:pt=true->(¬U2.toList=[]∧U2.toList.isEmpty=false):=fun h=>by
   have h1:¬ U2.toList=[]:=fun h2=>hz ⟨h,hemp.mp h2⟩;exact⟨h1,by simpa using h1⟩
  have GG:pt=false∨(pt=true∧¬ U2.toList=[]∧U2.toList.isEmpty=false):=by
   rcases hpt with h|⟨h,_⟩
   ·exact .inl h
   exact .inr ⟨h,hpe h⟩
  clear hpe hpt hemp;by_cases V2:15<N1+N2
  ·rw[if_pos (.inr V2)]at hf
   have HF:=h_ (congrArg (s9 q) hf);have a8T:(15:Int)<(N1:Int)+(N2:Int):=by omega
   clear hf hz md Gy hwk a5c a5d V2;rcases GG with rfl|⟨rfl,he,he1⟩ <;>
   ·go_wp2_with (first
     |(go_at_call 68;refine(uL.out _ vk.out).mono ?_;rintro e w5 ⟨rfl,hb⟩;have gH:=h_ (iK vk.out hb);clear hb)
     |fail)
    all_goals
     go_ret2
     exact⟨by rw[HF.out];rfl,gH.out⟩
  rw[if_neg (fun h=>h.elim hz V2)]at hf;have a8T:¬ (15:Int)<(N1:Int)+(N2:Int):=by omega
  clear hz V2;cases hR:dk (p1++p2)with
  |none =>
   rw[hR]at hf md;have qA:=h_ (show ∀W,bV prog 111 #[.string U] W (.tuple #[.int .i64 0,.bool false])from md);have HF:=h_ (congrArg (s9 q) hf);clear hf md hR;rcases GG with rfl|⟨rfl,he,he1⟩ <;>
   ·go_wp2_with (first
     |(go_at_call 68;refine(uL.out _ vk.out).mono ?_;rintro e w5 ⟨rfl,hb⟩;have gH:=h_ (iK vk.out hb);clear hb)
     |(go_at_call 111;refine(qA.out _).mono ?_;rintro e w6 ⟨rfl,hw⟩;subst w6)
     |fail)
    all_goals
     go_ret2
     exact⟨by rw[HF.out];rfl,gH.out⟩
  |some n =>
   rw[hR]at hf md;simp only at hf;have qA:=h_ (show ∀W,bV prog 111 #[.string U] W (.tuple #[.int .i64 n,.bool true])from md);have hn0:=pX hR;clear md hR;by_cases hr:K < -22∨22<K
   ·rw[if_pos hr]at hf
    have HF:=h_ (congrArg (s9 q) hf);clear hf;rcases hr with h1|h1
    ·rcases GG with rfl|⟨rfl,he,he1⟩ <;>
     ·go_wp2_with (first
       |(go_at_call 68;refine(uL.out _ vk.out).mono ?_;rintro e w5 ⟨rfl,hb⟩;have gH:=h_ (iK vk.out hb);clear hb)
       |(go_at_call 111;refine(qA.out _).mono ?_;rintro e w6 ⟨rfl,hw⟩;subst w6)
       |fail)
      all_goals
       go_ret2
       exact⟨by rw[HF.out];rfl,gH.out⟩
    have h2:¬ K < -22:=by omega
    rcases GG with rfl|⟨rfl,he,he1⟩ <;>
    ·go_wp2_with (first
      |(go_at_call 68;refine(uL.out _ vk.out).mono ?_;rintro e w5 ⟨rfl,hb⟩;have gH:=h_ (iK vk.out hb);clear hb)
      |(go_at_call 111;refine(qA.out _).mono ?_;rintro e w6 ⟨rfl,hw⟩;subst w6)
      |fail)
     all_goals
      go_ret2
      exact⟨by rw[HF.out];rfl,gH.out⟩
   rw[if_neg hr]at hf;have h2:¬ K < -22:=by omega
   have h3:¬ (22:Int)<K:=by omega
   have HMV:=h_ (fun W=>Sn n (m:=K) (by omega) W);have HF:=h_ (show s9 q _=(sN ⟨q,n,K⟩,true)from congrArg (s9 q) hf);clear hf hr;obtain⟨F,hF⟩:=az (moveB (floatOfInt .f64 n) K);rw[<-hF]at HMV;have hfl:sN ⟨q,n,K⟩=if q=true∧n≠0 then Op.negFloat .f64 F else F:=by unfold sN;rw[hF]
   have An:=h_ hfl;clear hfl hF;cases q with
   |false =>
    rcases GG with rfl|⟨rfl,he,he1⟩ <;>
    ·go_wp2_with (first
      |(go_at_call 68;refine(uL.out _ vk.out).mono ?_;rintro e w5 ⟨rfl,hb⟩;have gH:=h_ (iK vk.out hb);clear hb)
      |(go_at_call 111;refine(qA.out _).mono ?_;rintro e w6 ⟨rfl,hw⟩;subst w6)
      |(go_at_call 143;refine(HMV.out _).mono ?_;rintro e w6 ⟨rfl,hw⟩;subst w6)
      |fail)
     all_goals
      go_ret2
      exact⟨by rw[HF.out,An.out,if_neg (by simp)];rfl,gH.out⟩
   |true =>
    by_cases hn:n=0
    ·subst hn
     rcases GG with rfl|⟨rfl,he,he1⟩ <;>
     ·go_wp2_with (first
       |(go_at_call 68;refine(uL.out _ vk.out).mono ?_;rintro e w5 ⟨rfl,hb⟩;have gH:=h_ (iK vk.out hb);clear hb)
       |(go_at_call 111;refine(qA.out _).mono ?_;rintro e w6 ⟨rfl,hw⟩;subst w6)
       |(go_at_call 143;refine(HMV.out _).mono ?_;rintro e w6 ⟨rfl,hw⟩;subst w6)
       |fail)
      all_goals
       go_ret2
       exact⟨by rw[HF.out,An.out,if_neg (by simp)];rfl,gH.out⟩
    have hnb:(n != 0)=true:=by simpa using hn
    have hng:=fun(W:World)=>WE (P:=prog) W F;have Cr:=h_ hn;rcases GG with rfl|⟨rfl,he,he1⟩ <;>
    ·go_wp2_with (first
      |(go_at_call 68;refine(uL.out _ vk.out).mono ?_;rintro e w5 ⟨rfl,hb⟩;have gH:=h_ (iK vk.out hb);clear hb)
      |(go_at_call 111;refine(qA.out _).mono ?_;rintro e w6 ⟨rfl,hw⟩;subst w6)
      |(go_at_call 143;refine(HMV.out _).mono ?_;rintro e w6 ⟨rfl,hw⟩;subst w6)
      |fail)
     all_goals
      go_ret2
      exact⟨by rw[HF.out,An.out,if_pos (by simpa using Cr.out)];rfl,gH.out⟩

def bA(wv:Value)(c:da):Array Value:=#[S c.url,wv,.bool c.hw,.int .i64 c.w,.bool c.hh,.int .i64 c.h,.bool c.hd,.float .f64 c.d]
theorem Ws{l:Bytes}(h:l ≠ []):∃ m x,l=m++[x]:=⟨l.dropLast,l.getLast h,(fG h).symm⟩
theorem It(c:da)(m:Bytes)(x:UInt8):nV c (m++[x])=if x=119 then(match dk m with
   |none=>none
   |some n=>if n<1∨c.hw=true∨c.hd=true then none else some {c with hw:=true,w:=n})
  else if x=104 then(match dk m with
   |none=>none
   |some n=>if n<1∨c.hh=true∨c.hd=true then none else some {c with hh:=true,h:=n})
  else if x=120 then(match Gs m with
   |none=>none
   |some f=>if geB (sN f)=false∨c.hw=true∨c.hh=true∨c.hd=true then none else some {c with hd:=true,d:=sN f})
  else none:=by
 unfold nV;rw[j5];dsimp only;rw[List.dropLast_concat];rfl
theorem CL(x:UInt8)(k:Nat)(h:k<256):(b2 x=(k:Int)) ↔ x=UInt8.ofNat k:=by
 constructor
 ·intro e
  have:x.toNat=k:=by unfold b2 at e;omega
  rw[<-this,cM]
 rintro rfl;unfold b2;rw[ck h]
theorem EF{P:Program}(W:World)(a:Addr)(b:Nat)(m:Mode):(store a (.float .f64 b) m).run P W=stored P W a (.float .f64 b) m:=run_store P W a _ m rfl
theorem Tt(g:Nat)(wv:Value)(c:da)(word:Bytes)(w:World)(hl:word.length<=1024000000)(i:CB w g 45 (bA wv c))(hE:Env w) :
  Calls prog 79 #[.pointer (some ⟨g,0,none⟩),.string (bs word)] w fun e w' =>
   e=.returned (.bool (nV c word).isSome)∧CB w' g 45 (bA wv ((nV c word).getD c))∧Fk (fun j=>j=g) w w':=by
 by_cases h0:word=[]
 ·subst h0
  have hI:=h_ i;obtain⟨t,ht⟩:=az (bs []);have he:t.toList=[]:=by rw[ht,ay]
  have he1:t.toList.isEmpty=true:=by rw[he];rfl
  rw[<-ht];clear ht i hE hl;go_enter func79,ntmps79
  go_wp2_with fail
  go_ret;exact⟨rfl,hI.out,Fk.refl _ _⟩
 obtain⟨m,x,rfl⟩:=Ws h0;obtain⟨R,hR⟩:=az (nV c (m++[x]));rw[<-hR];rw[It]at hR;obtain⟨K,hK⟩:=az (m.length);rw[ae,e7,<-hK]at hl;obtain⟨t,ht⟩:=az (bs (m++[x]));have hsz:t.size=K+1:=by rw[ht,aM,ae,hK];rfl
 have nS:K<t.size:=by omega
 have hx:((t[K]'nS).toNat:Int)=b2 x:=by
  rw[cJ ht nS (by rw[ae,<-hK];simp)];simp[hK]
 have hex:t.extract 0 K=bs m:=by rw[ht,sL,hK,jo rfl]
 have he:¬ t.toList=[]:=by rw[ht,ay];simp
 have he1:t.toList.isEmpty=false:=by simpa using he
 obtain⟨u,hu⟩:=az (bs m);rw[<-hu]at hex;rw[<-ht];have HUM:=h_ hu;clear ht hu h0;obtain⟨N,hN⟩:=az (t.size);have Re:t.size=N:=hN.symm;have hw1:IntKind.i64.wrap ((N:Int)-1)=(K:Int):=by rw[IntWalk.i64_in _ (by omega)];omega
 have hKN:K<=N:=by omega
 have p7:N<=1024000000:=by omega
 have hKm:m.length<=1024000000:=by omega
 have MM:=CL x 119 (by omega);have ML:=CL x 104 (by omega);have MN:=CL x 120 (by omega);clear hsz hN hl hK;have hI:=h_ i;have f2:=i.wy 2;have f3:=i.wy 3;have f4:=i.wy 4;have f5:=i.wy 5;have f6:=i.wy 6;have f7:=i.wy 7;have c2:=i.aF (j:=2) (v:=.bool c.hw) rfl;have c3:=i.aF (j:=3) (v:=.int .i64 c.w) rfl;have c4:=i.aF (j:=4) (v:=.bool c.hh) rfl;have c5:=i.aF (j:=5) (v:=.int .i64 c.h) rfl;have c6:=i.aF (j:=6) (v:=.bool c.hd) rfl;have c7:=i.aF (j:=7) (v:=.float .f64 c.d) rfl;clear i;by_cases h119:x=119
 ·rw[if_pos h119]at hR
  have hX:b2 x=119:=MM.mpr (by rw[h119];rfl);rw[hX]at hx;clear MM ML MN hX h119;have md:=fun W=>k7 m W hKm;rw[<-HUM.out]at md;cases hW:dk m with
  |none =>
   rw[hW]at hR md;have qA:=h_ (show ∀W,bV prog 111 #[.string u] W (.tuple #[.int .i64 0,.bool false])from md);have HR:=h_ (show R=none from hR);clear hR md hW hE;go_enter func79,ntmps79
   go_wp2_with (first
     |(go_at_call 111;refine(qA.out _).mono ?_;rintro e w6 ⟨rfl,hw⟩;subst w6)
     |fail)
   go_ret;rw[HR.out];exact⟨rfl,hI.out,Fk.refl _ _⟩
  |some n =>
   rw[hW]at hR md;have qA:=h_ (show ∀W,bV prog 111 #[.string u] W (.tuple #[.int .i64 n,.bool true])from md);replace hR:R=if n<1∨c.hw=true∨c.hd=true then none else some {c with hw:=true,w:=n}:=hR;clear md hW hE;by_cases hn:n<1
   ·have HR:=h_ (show R=none by rw[hR,if_pos (.inl hn)])
    clear hR;go_enter func79,ntmps79
    go_wp2_with (first
     |(go_at_call 111;refine(qA.out _).mono ?_;rintro e w6 ⟨rfl,hw⟩;subst w6)
     |fail)
    go_ret;rw[HR.out];exact⟨rfl,hI.out,Fk.refl _ _⟩
   cases hfa:c.hw with
   |true =>
    rw[hfa]at c2;have HR:=h_ (show R=none by rw[hR,if_pos (.inr (.inl hfa))]);clear hR hfa;go_enter func79,ntmps79
    go_wp2_with (first
     |(go_at_call 111;refine(qA.out _).mono ?_;rintro e w6 ⟨rfl,hw⟩;subst w6)
     |fail)
    go_ret;rw[HR.out];exact⟨rfl,hI.out,Fk.refl _ _⟩
   |false =>
    rw[hfa]at c2;cases Mp:c.hd with
    |true =>
     rw[Mp]at c6;have HR:=h_ (show R=none by rw[hR,if_pos (.inr (.inr Mp))]);clear hR hfa Mp;go_enter func79,ntmps79
     go_wp2_with (first
     |(go_at_call 111;refine(qA.out _).mono ?_;rintro e w6 ⟨rfl,hw⟩;subst w6)
     |fail)
     go_ret;rw[HR.out];exact⟨rfl,hI.out,Fk.refl _ _⟩
    |false =>
     rw[Mp]at c6;have HR:=h_ (show R=some {c with hw:=true,w:=n} by rw[hR,if_neg (by rw[hfa,Mp];simpa using hn)]);clear hR hfa Mp;go_enter func79,ntmps79
     go_wp2_with (first
     |(go_at_call 111;refine(qA.out _).mono ?_;rintro e w6 ⟨rfl,hw⟩;subst w6)
     |fail)
     go_ret;rw[HR.out];exact⟨rfl,(hI.out.set 2 (.bool true)).set 3 (.int .i64 n),(Fk.set (J:=fun j=>j=g) hI.out 2 _ rfl).trans (Fk.set (J:=fun j=>j=g) (hI.out.set 2 _) 3 _ rfl)⟩
 rw[if_neg h119]at hR
 have n119:(b2 x==119)=false:=by
  rw[beq_eq_false_iff_ne];exact fun h=>h119 (MM.mp h)
 by_cases Gx:x=104
 ·rw[if_pos Gx]at hR
  have hX:b2 x=104:=ML.mpr (by rw[Gx];rfl);rw[hX]at hx;clear MM ML MN hX h119 Gx n119;have md:=fun W=>k7 m W hKm;rw[<-HUM.out]at md;cases hW:dk m with
  |none =>
   rw[hW]at hR md;have qA:=h_ (show ∀W,bV prog 111 #[.string u] W (.tuple #[.int .i64 0,.bool false])from md);have HR:=h_ (show R=none from hR);clear hR md hW hE;go_enter func79,ntmps79
   go_wp2_with (first
     |(go_at_call 111;refine(qA.out _).mono ?_;rintro e w6 ⟨rfl,hw⟩;subst w6)
     |fail)
   go_ret;rw[HR.out];exact⟨rfl,hI.out,Fk.refl _ _⟩
  |some n =>
   rw[hW]at hR md;have qA:=h_ (show ∀W,bV prog 111 #[.string u] W (.tuple #[.int .i64 n,.bool true])from md);replace hR:R=if n<1∨c.hh=true∨c.hd=true then none else some {c with hh:=true,h:=n}:=hR;clear md hW hE;by_cases hn:n<1
   ·have HR:=h_ (show R=none by rw[hR,if_pos (.inl hn)])
    clear hR;go_enter func79,ntmps79
    go_wp2_with (first
     |(go_at_call 111;refine(qA.out _).mono ?_;rintro e w6 ⟨rfl,hw⟩;subst w6)
     |fail)
    go_ret;rw[HR.out];exact⟨rfl,hI.out,Fk.refl _ _⟩
   cases hfa:c.hh with
   |true =>
    rw[hfa]at c4;have HR:=h_ (show R=none by rw[hR,if_pos (.inr (.inl hfa))]);clear hR hfa;go_enter func79,ntmps79
    go_wp2_with (first
     |(go_at_call 111;refine(qA.out _).mono ?_;rintro e w6 ⟨rfl,hw⟩;subst w6)
     |fail)
    go_ret;rw[HR.out];exact⟨rfl,hI.out,Fk.refl _ _⟩
   |false =>
    rw[hfa]at c4;cases Mp:c.hd with
    |true =>
     rw[Mp]at c6;have HR:=h_ (show R=none by rw[hR,if_pos (.inr (.inr Mp))]);clear hR hfa Mp;go_enter func79,ntmps79
     go_wp2_with (first
     |(go_at_call 111;refine(qA.out _).mono ?_;rintro e w6 ⟨rfl,hw⟩;subst w6)
     |fail)
     go_ret;rw[HR.out];exact⟨rfl,hI.out,Fk.refl _ _⟩
    |false =>
     rw[Mp]at c6;have HR:=h_ (show R=some {c with hh:=true,h:=n} by rw[hR,if_neg (by rw[hfa,Mp];simpa using hn)]);clear hR hfa Mp;go_enter func79,ntmps79
     go_wp2_with (first
     |(go_at_call 111;refine(qA.out _).mono ?_;rintro e w6 ⟨rfl,hw⟩;subst w6)
     |fail)
     go_ret;rw[HR.out];exact⟨rfl,(hI.out.set 4 (.bool true)).set 5 (.int .i64 n),(Fk.set (J:=fun j=>j=g) hI.out 4 _ rfl).trans (Fk.set (J:=fun j=>j=g) (hI.out.set 4 _) 5 _ rfl)⟩
 rw[if_neg Gx]at hR
 have n104:(b2 x==104)=false:=by
  rw[beq_eq_false_iff_ne];exact fun h=>Gx (ML.mp h)
 by_cases Mj:x=120
 ·rw[if_pos Mj]at hR
  have hX:b2 x=120:=MN.mpr (by rw[Mj];rfl);rw[hX]at hx;clear MM ML MN hX h119 Gx Mj n119 n104;have hfl:=Me m w hKm hE;rw[<-HUM.out]at hfl;clear hE;cases hW:Gs m with
  |none =>
   have hfe:DC m=(0,false):=by unfold DC;rw[hW]
   rw[hW]at hR;rw[hfe]at hfl;have An:=h_ (show bN prog 112 #[.string u] w (.tuple #[.float .f64 0,.bool false])from hfl);have HR:=h_ (show R=none from hR);clear hR hfl hW hfe;go_enter func79,ntmps79
   go_wp2_with (first
     |(go_at_call 112;refine(An.out).mono ?_;rintro e w6 ⟨rfl,hb⟩;have jM:=h_ hb;have I6:=h_ (hI.out.keep hb);have d2:=I6.out.aF (j:=2) (v:=.bool c.hw) rfl;have d4:=I6.out.aF (j:=4) (v:=.bool c.hh) rfl;have d6:=I6.out.aF (j:=6) (v:=.bool c.hd) rfl;have d7:=I6.out.aF (j:=7) (v:=.float .f64 c.d) rfl;have g6:=I6.out.wy 6;have g7:=I6.out.wy 7;clear hb)
     |fail)
   go_ret;rw[HR.out];exact⟨rfl,I6.out,Fk.of_below jM.out⟩
  |some f =>
   have hfe:DC m=(sN f,true):=by unfold DC;rw[hW]
   rw[hW]at hR;rw[hfe]at hfl;obtain⟨B,hB⟩:=az (sN f);replace hR:R=if geB (sN f)=false∨c.hw=true∨c.hh=true∨c.hd=true then none else some {c with hd:=true,d:=sN f}:=hR;rw[<-hB]at hfl hR;have An:=h_ (show bN prog 112 #[.string u] w (.tuple #[.float .f64 B,.bool true])from hfl);clear hfl hW hfe hB;cases hge:geB B with
   |false =>
    have HR:=h_ (show R=none by rw[hR,if_pos (.inl hge)]);have Q5:(FloatKind.f64.format.order B 0==some .gt||FloatKind.f64.format.order B 0==some .eq)=false:=hge;clear hR hge;go_enter func79,ntmps79
    go_wp2_with (first
     |(go_at_call 112;refine(An.out).mono ?_;rintro e w6 ⟨rfl,hb⟩;have jM:=h_ hb;have I6:=h_ (hI.out.keep hb);have d2:=I6.out.aF (j:=2) (v:=.bool c.hw) rfl;have d4:=I6.out.aF (j:=4) (v:=.bool c.hh) rfl;have d6:=I6.out.aF (j:=6) (v:=.bool c.hd) rfl;have d7:=I6.out.aF (j:=7) (v:=.float .f64 c.d) rfl;have g6:=I6.out.wy 6;have g7:=I6.out.wy 7;clear hb)
     |fail)
    go_ret;rw[HR.out];exact⟨rfl,I6.out,Fk.of_below jM.out⟩
   |true =>
    have Q5:(FloatKind.f64.format.order B 0==some .gt||FloatKind.f64.format.order B 0==some .eq)=true:=hge;cases hhw:c.hw with
    |true =>
     have HR:=h_ (show R=none by rw[hR,if_pos (.inr (.inl hhw))]);have a4C:=Q5;clear hR hge;go_enter func79,ntmps79
     go_wp2_with (first
     |(go_at_call 112;refine(An.out).mono ?_;rintro e w6 ⟨rfl,hb⟩;have jM:=h_ hb;have I6:=h_ (hI.out.keep hb);have d2:=I6.out.aF (j:=2) (v:=.bool c.hw) rfl;have d4:=I6.out.aF (j:=4) (v:=.bool c.hh) rfl;have d6:=I6.out.aF (j:=6) (v:=.bool c.hd) rfl;have d7:=I6.out.aF (j:=7) (v:=.float .f64 c.d) rfl;have g6:=I6.out.wy 6;have g7:=I6.out.wy 7;clear hb;rw[hhw]at d2)
     |fail)
     go_ret;rw[HR.out];exact⟨rfl,I6.out,Fk.of_below jM.out⟩
    |false =>
     cases hhh:c.hh with
     |true =>
      have HR:=h_ (show R=none by rw[hR,if_pos (.inr (.inr (.inl hhh)))]);have a4C:=Q5;clear hR hge;go_enter func79,ntmps79
      go_wp2_with (first
     |(go_at_call 112;refine(An.out).mono ?_;rintro e w6 ⟨rfl,hb⟩;have jM:=h_ hb;have I6:=h_ (hI.out.keep hb);have d2:=I6.out.aF (j:=2) (v:=.bool c.hw) rfl;have d4:=I6.out.aF (j:=4) (v:=.bool c.hh) rfl;have d6:=I6.out.aF (j:=6) (v:=.bool c.hd) rfl;have d7:=I6.out.aF (j:=7) (v:=.float .f64 c.d) rfl;have g6:=I6.out.wy 6;have g7:=I6.out.wy 7;clear hb;rw[hhw]at d2;rw[hhh]at d4)
     |fail)
      go_ret;rw[HR.out];exact⟨rfl,I6.out,Fk.of_below jM.out⟩
     |false =>
      cases hhd:c.hd with
      |true =>
       have HR:=h_ (show R=none by rw[hR,if_pos (.inr (.inr (.inr hhd)))]);have a4C:=Q5;clear hR hge;go_enter func79,ntmps79
       go_wp2_with (first
     |(go_at_call 112;refine(An.out).mono ?_;rintro e w6 ⟨rfl,hb⟩;have jM:=h_ hb;have I6:=h_ (hI.out.keep hb);have d2:=I6.out.aF (j:=2) (v:=.bool c.hw) rfl;have d4:=I6.out.aF (j:=4) (v:=.bool c.hh) rfl;have d6:=I6.out.aF (j:=6) (v:=.bool c.hd) rfl;have d7:=I6.out.aF (j:=7) (v:=.float .f64 c.d) rfl;have g6:=I6.out.wy 6;have g7:=I6.out.wy 7;clear hb;rw[hhw]at d2;rw[hhh]at d4;rw[hhd]at d6)
     |fail)
       go_ret;rw[HR.out];exact⟨rfl,I6.out,Fk.of_below jM.out⟩
      |false =>
       have hsf:=fun(W:World) (a:Addr) (m:Mode)=>EF (P:=prog) W a B m;have HR:=h_ (show R=some {c with hd:=true,d:=B} by rw[hR,if_neg (by rw[hge,hhw,hhh,hhd];simp)]);clear hR hge;go_enter func79,ntmps79
       go_wp2_with (first
     |(go_at_call 112;refine(An.out).mono ?_;rintro e w6 ⟨rfl,hb⟩;have jM:=h_ hb;have I6:=h_ (hI.out.keep hb);have d2:=I6.out.aF (j:=2) (v:=.bool c.hw) rfl;have d4:=I6.out.aF (j:=4) (v:=.bool c.hh) rfl;have d6:=I6.out.aF (j:=6) (v:=.bool c.hd) rfl;have d7:=I6.out.aF (j:=7) (v:=.float .f64 c.d) rfl;have g6:=I6.out.wy 6;have g7:=I6.out.wy 7;clear hb;rw[hhw]at d2;rw[hhh]at d4;rw[hhd]at d6)
     |fail)
       go_ret;rw[HR.out];exact⟨rfl,(I6.out.set 6 (.bool true)).set 7 (.float .f64 B),(Fk.of_below jM.out).trans ((Fk.set (J:=fun j=>j=g) I6.out 6 _ rfl).trans (Fk.set (J:=fun j=>j=g) (I6.out.set 6 _) 7 _ rfl))⟩
 rw[if_neg Mj]at hR
 have n120:(b2 x==120)=false:=by
  rw[beq_eq_false_iff_ne];exact fun h=>Mj (MN.mp h)
 have HR:=h_ hR;generalize b2 x=X at hx n119 n104 n120;clear hR MM ML MN h119 Gx Mj hE;go_enter func79,ntmps79
 go_wp2_with fail
 go_ret;rw[HR.out];exact⟨rfl,hI.out,Fk.refl _ _⟩

theorem F7(wv:Value)(c:da):(bA wv c).size=8:=rfl
theorem oA:(prog.info? 45).map (·.size)=some 8:=by kernel_rfl
theorem Js{wv:Value}{c:da}(h:wv.oneCell'=true):∀ v∈(bA wv c).toList,v.oneCell'=true:=by
 intro v hv;simp only[bA,aj,bl,or_false]at hv;rcases hv with rfl|rfl|rfl|rfl|rfl|rfl|rfl|rfl
 all_goals first|rfl|exact h
theorem Lj(w:World):(Instr.alloc 45 true (Value.tuple #[])).run prog w=.ok (.pointer (some ⟨w.heap.size,0,none⟩)) (w.alloc (.cells (bA aR C0) 45)):=by kernel_rfl
theorem AA{f:Func}{k m:Nat}(hf:f.results=#[.cell k 45,.tmp m]){tmps:Array Value}{w2:World}{b:Nat}{wv:Value}{c:da}{q:Bool}{Post:Ending->World->Prop}
  (hk:tmps.getD k undef=.pointer (some ⟨b,0,none⟩)) (hm:tmps.getD m undef=.bool q) (i:CB w2 b 45 (bA wv c)) (hP:Post (.returned (.tuple #[.agg (bA wv c),.bool q])) w2) :
  bodyPost prog f Post Exit.ret {tmps:=tmps,defers:=[]} w2:=by
 have h2':tmps[k]?.getD undef=.pointer (some ⟨b,0,none⟩):=by simpa using hk
 have h3':tmps[m]?.getD undef=.bool q:=by simpa using hm
 have hl:=i.load (P:=prog) 45 _ underlying45 rfl oA;refine bodyPost_ret (v:=.tuple #[.agg (bA wv c),.bool q]) ?_ rfl hP;simp[results,hf,asAddr,h2',h3',hl]
theorem Vx(p0 wv:Value)(c0 c:da):uz (bA p0 c0) 0 (bA wv c).toList=bA wv c:=nI [S c0.url,p0,.bool c0.hw,.int .i64 c0.w,.bool c0.hh,.int .i64 c0.h,.bool c0.hd,.float .f64 c0.d] [S c.url,wv,.bool c.hw,.int .i64 c.w,.bool c.hh,.int .i64 c.h,.bool c.hd,.float .f64 c.d] (by simp)
theorem Yh(wv:Value)(c:da):(bA wv c).toList.length=8:=rfl
section
variable {ops:Array Oper} {rest:List Oper} {o:Oper} {a:Act} {w:World} {Q:Exit->Act->World->Prop}
theorem Kw(hgd:o.guard=none)(x y:Operand)(ho:o.op=.store 45 x y)(w0:World)(b:Nat){p0:Value}{c0:da}(i:OB w0 b 45 (bA p0 c0) w)(wv:Value)(c:da)(h1:wv.oneCell'=true)
  (hx:a.eval x=.pointer (some ⟨b,0,none⟩)) (hy:a.eval y=.agg (bA wv c))
  (K:∀ w',OB w0 b 45 (bA wv c) w'->Tn b w w'->wpList prog ops Q rest (a.put o.dst undef) w'):wpList prog ops Q (o::rest) a w :=
 t4 hgd _ x y ho w0 b 45 (bA p0 c0) i 0 (bA wv c).toList hx hy (by rw[Yh,F7];omega) (by rw[Yh];exact oA) (Js h1) (bA wv c) (Vx p0 wv c0 c) K
theorem Bj(hgd:Region.wanted o (yielded ops a.tmps)=true)(x:Operand)(ho:o.op=.load 45 x)(b:Nat)(wv:Value)(c:da)(i:CB w b 45 (bA wv c))(hx:a.eval x=.pointer (some ⟨b,0,none⟩))
  (K:wpList prog ops Q rest (a.put o.dst (.agg (bA wv c))) w):wpList prog ops Q (o::rest) a w :=
 Sc hgd _ x ho b (bA wv c) _ underlying45 rfl oA hx i K
end
theorem Fk.CP{B g:Nat}{w w':World}(h:Fk (fun j=>j=g) w w')(hB:B<=g)(hw:B<=w.heap.size):Below B w w' :=
 ⟨h.os,h.tape,h.output,h.s,fun j hj=>h.k j (aQ hj hw) (fun e=>by omega)⟩
def a2z(w:World):Option da->Ending->World->Prop
 |none,e,w'=>e=.returned (.tuple #[.agg (bA aR C0),.bool false])∧Below w.heap.size w w'
 |some c,e,w'=>∃ wv,e=.returned (.tuple #[.agg (bA wv c),.bool true])∧w'.ownsRow w.heap.size 9 1 wv c.words.length (Strs c.words)∧Below w.heap.size w w'
theorem Ts{ws:List Bytes}{k:Nat}(c:da)(h:k<ws.length):mU c (ws.drop k)=match nV c ws[k]with
  |none=>none
  |some c'=>mU c' (ws.drop (k+1)):=by
 rw[aq h];rfl
def P7(ws:List Bytes):Option da->Option da
 |none=>none
 |some c=>if c.hh=true∧c.hw=false then none else some {c with words:=ws}
theorem Z2(ws:List Bytes):gJ ws=P7 ws (mU C0 ws):=by
 unfold gJ P7;cases mU C0 ws <;>rfl
theorem rC(ws:List Bytes)(v:Value)(w:World)(h:Sl w.heap.size w v (ws.map S))(hn:ws.length<=1024000000)(hx:∀ x∈ws,x.length<=1024000000)(hE:Env w) :
  Calls prog 42 #[v] w (a2z w (gJ ws)):=by
 obtain⟨R,hR⟩:=az (mU C0 ws);have hd:gJ ws=P7 ws R:=by rw[hR];exact Z2 ws
 obtain⟨P,hP⟩:=az (gJ ws);rw[<-hP]at hd ⊢;have HR:=h_ hR;have HD:=h_ hd;have HS:=h_ h;have HX:=h_ hx;have HE:=h_ hE;have yj:=h_ (fun W (hb:Below w.heap.size w W)=>je ws v W ((h.below hb).more hb.size) hn);obtain⟨av,cv,hv⟩:=dN h;subst hv;obtain⟨n,hnn⟩:=az (ws.length);have Cr:=h_ hnn;rw[am,<-hnn];rw[am,<-hnn]at HS yj;rw[<-hnn]at hn;clear hR hd hx hE h hP hnn;go_enter func42,ntmps42
 go_upto_region 1 with(first
  |(refine aS rfl 45 rfl _ _ (Lj _) ?_)
  |fail)
 have G0:=h_ (CB.new w 45 (bA aR C0));have B0:=h_ ((Below.refl w.heap.size w).alloc (af _) (.cells (bA aR C0) 45));obtain⟨w1,hw1⟩:=az (w.alloc (.cells (bA aR C0) 45));rw[<-hw1]at G0 B0 ⊢;clear hw1
 go_upto_region 2 with(first
  |(refine aS rfl 45 rfl _ _ (Lj _) ?_)
  |fail)
 have G1:=h_ (CB.new w1 45 (bA aR C0));have B1:=h_ ((Below.refl w1.heap.size w1).alloc (af _) (.cells (bA aR C0) 45));obtain⟨g,hg⟩:=az (w1.heap.size);rw[<-hg]at G1 ⊢;obtain⟨w2,hw2⟩:=az (w1.alloc (.cells (bA aR C0) 45));rw[<-hw2]at G1 B1 ⊢;clear hw2;obtain⟨g0,hg0⟩:=az (w.heap.size);rw[<-hg0]at G0 ⊢;have G02:=h_ (G0.out.keep B1.out)
 have Ol:=h_ (show g0≠g∧w.heap.size<=g0∧w.heap.size<=g∧w.heap.size=g0 from by
  have:=G0.out.lt;have:=B0.out.size;omega)
 have B2:=h_ (B0.out.trans (B1.out.mono (by have:=B0.out.size;exact this)));clear hg hg0 G0 B0 B1
 go_wp2_with fail
 go_loopw [9] (fun iv wr=>∃ (k:Nat) (c:da),k<=n∧iv=.int .i64 k∧Hid (mU c (ws.drop k)=R)∧Hid (CB wr g 45 (bA aR c))∧Hid (CB wr g0 45 (bA aR C0))∧Hid (Below w.heap.size w wr)) (fun i _=>n-(intOf i).toNat)
 case atStart=>exact⟨0,C0,by omega,by simp,HR.out.symm,G1.out,G02.out,B2.out⟩
 case round =>
  clear G1 G02 B2;obtain⟨k,c,hk,rfl,HT,G1,G0,HB⟩:=hrel;by_cases hlt:k<n
  ·have hkl:k<ws.length:=by rw[<-Cr.out];exact hlt
   obtain⟨b,o,hva,hb,hcell⟩:=kT (HS.out.below HB.out) k hkl;have hst:=Ts c hkl;rw[HT.out]at hst;have hxl:=HX.out ws[k] (bw hkl);have htk:=Tt g aR c ws[k] wr hxl G1.out (HE.out.below HB.out);subst hva;generalize ws[k]=x at hcell hst htk;obtain⟨t,ht⟩:=az (bs x);have hcell2:wr.cell? ⟨b,o+k,none⟩=some (.string t):=by rw[ht];exact hcell
   rw[<-ht]at htk;clear hcell ht hxl;cases hq:nV c x with
   |none =>
    rw[hq]at htk hst;have yr:=h_ (show Calls prog 79 #[.pointer (some ⟨g,0,none⟩),.string t] wr fun e w'=>e=.returned (.bool false)∧CB w' g 45 (bA aR c)∧Fk (fun j=>j=g) wr w' from htk);have HF:=h_ (show P=none by rw[HD.out,hst];rfl);clear htk hst hq
    go_wp2_with (first
     |(go_at_call 79;refine yr.out.mono ?_;rintro e w5 ⟨rfl,_,hf⟩;have I0:=h_ (OB.of (w0:=w) (hf.cb G0.out Ol.out.1) Ol.out.2.1 (HB.out.trans (hf.CP Ol.out.2.2.1 HB.out.size)));clear hf)
     |(refine Kw rfl (.tmp 2) (.tmp 16) rfl w g0 I0.out aR C0 rfl rfl rfl ?_;intro w6 i6 _;have I6:=h_ i6;clear i6)
     |fail)
    rw[HF.out];exact AA results42 rfl rfl ⟨I6.out.a⟩ ⟨rfl,I6.out.bL⟩
   |some c' =>
    rw[hq]at htk hst;have yr:=h_ (show Calls prog 79 #[.pointer (some ⟨g,0,none⟩),.string t] wr fun e w'=>e=.returned (.bool true)∧CB w' g 45 (bA aR c')∧Fk (fun j=>j=g) wr w' from htk);have HT2:=h_ (show mU c' (ws.drop (k+1))=R from hst.symm);clear htk hst hq
    go_wp2_with (first
     |(go_at_call 79;refine yr.out.mono ?_;rintro e w5 ⟨rfl,hc,hf⟩;have I1:=h_ hc;have I0:=h_ (hf.cb G0.out Ol.out.1);have gH:=h_ (HB.out.trans (hf.CP Ol.out.2.2.1 HB.out.size));clear hf hc)
     |fail)
    go_roundw
    case rel=>exact⟨k+1,c',by omega,by simp,HT2.out,I1.out,I0.out,gH.out⟩
    case measure=>simp[intOf];omega
  obtain rfl:k=n:=by omega
  have hRc:R=some c:=by
   have:=HT.out;rw[bB (by rw[Cr.out];exact af _)]at this;exact this.symm
  have c4:=G1.out.aF (j:=4) (v:=.bool c.hh) rfl;have c2:=G1.out.aF (j:=2) (v:=.bool c.hw) rfl;by_cases hz:c.hh=true∧c.hw=false
  ·have HF:=h_ (show P=none by rw[HD.out,hRc];exact if_pos hz)
   rw[hz.1]at c4;rw[hz.2]at c2;have I0:=h_ (OB.of (w0:=w) G0.out Ol.out.2.1 HB.out);clear hRc hz
   go_wp2_with (first
    |(refine Kw rfl (.tmp 2) (.tmp 25) rfl w g0 I0.out aR C0 rfl rfl rfl ?_;intro w6 i6 _;have I6:=h_ i6;clear i6)
    |fail)
   rw[HF.out];exact AA results42 rfl rfl ⟨I6.out.a⟩ ⟨rfl,I6.out.bL⟩
  have HF:=h_ (show P=some {c with words:=ws} by rw[HD.out,hRc];exact if_neg hz)
  have hcs:c.hh=false∨(c.hh=true∧c.hw=true):=by
   cases h1:c.hh with
   |false=>exact .inl rfl
   |true =>
    cases h2:c.hw with
    |true=>exact .inr ⟨rfl,rfl⟩
    |false=>exact absurd ⟨h1,h2⟩ hz
  have Oa:=h_ (yj.out wr HB.out);clear hRc hz yj;rcases hcs with h1|⟨h1,h2⟩
  ·rw[h1]at c4
   clear h1 c2
   go_wp2_with (first
    |(go_at_call 30;refine Oa.out.mono ?_;rintro e w5 ⟨wv,rfl,ho,hb⟩;have HO:=h_ ho;have gH:=h_ (iK HB.out hb);have I1:=h_ (OB.of (w0:=w) (G1.out.keep hb) Ol.out.2.2.1 gH.out);have I0:=h_ (G0.out.keep hb);have LT:=h_ HB.out.size;clear hb ho)
    |(refine ex rfl 28 (.tmp 28) (.tmp 27) rfl w g 45 (bA aR c) I1.out 1 wv rfl rfl (by exact aQ (by omega) (af 8)) (by kernel_rfl) (bm HO.out) (bA wv {c with words:=ws}) rfl ?_;intro w6 i6 t6;have I6:=h_ i6;have J0:=h_ (OB.of (w0:=w) (t6.cb I0.out Ol.out.1) Ol.out.2.1 i6.bL);have O6:=h_ t6;clear i6 t6)
    |(refine Bj (by rfl) (.tmp 4) rfl g wv {c with words:=ws} ⟨I6.out.a⟩ rfl ?_)
    |(refine Kw rfl (.tmp 2) (.tmp 29) rfl w g0 J0.out wv {c with words:=ws} (bm HO.out) rfl rfl ?_;intro w7 i7 t7;have I7:=h_ i7;have T7:=h_ t7;clear i7 t7)
    |fail)
   rw[HF.out];have ho:=HO.out;rw[am]at ho;exact AA results42 rfl rfl ⟨I7.out.a⟩ ⟨wv,rfl,bh (T7.out.row (O6.out.row ho G1.out.lt) G0.out.lt) HB.out.size,I7.out.bL⟩
  rw[h1]at c4;rw[h2]at c2;clear h1 h2
  go_wp2_with (first
   |(go_at_call 30;refine Oa.out.mono ?_;rintro e w5 ⟨wv,rfl,ho,hb⟩;have HO:=h_ ho;have gH:=h_ (iK HB.out hb);have I1:=h_ (OB.of (w0:=w) (G1.out.keep hb) Ol.out.2.2.1 gH.out);have I0:=h_ (G0.out.keep hb);have LT:=h_ HB.out.size;clear hb ho)
   |(refine ex rfl 28 (.tmp 28) (.tmp 27) rfl w g 45 (bA aR c) I1.out 1 wv rfl rfl (by exact aQ (by omega) (af 8)) (by kernel_rfl) (bm HO.out) (bA wv {c with words:=ws}) rfl ?_;intro w6 i6 t6;have I6:=h_ i6;have J0:=h_ (OB.of (w0:=w) (t6.cb I0.out Ol.out.1) Ol.out.2.1 i6.bL);have O6:=h_ t6;clear i6 t6)
   |(refine Bj (by rfl) (.tmp 4) rfl g wv {c with words:=ws} ⟨I6.out.a⟩ rfl ?_)
   |(refine Kw rfl (.tmp 2) (.tmp 29) rfl w g0 J0.out wv {c with words:=ws} (bm HO.out) rfl rfl ?_;intro w7 i7 t7;have I7:=h_ i7;have T7:=h_ t7;clear i7 t7)
   |fail)
  rw[HF.out];have ho:=HO.out;rw[am]at ho;exact AA results42 rfl rfl ⟨I7.out.a⟩ ⟨wv,rfl,bh (T7.out.row (O6.out.row ho G1.out.lt) G0.out.lt) HB.out.size,I7.out.bL⟩

theorem uS(q:UInt8->Bool):∀ (l:Bytes) (s:Bool),oy (fun _ c=>q c) (fun s _=>s) s l=(l.takeWhile q).length
 | [],_=>rfl
 |c::r,s=>by
  rw[oy];cases h:q c with
  |true=>rw[if_pos rfl,uS q r s,aY h,ag]
  |false=>rw[if_neg (by simp),aX (by rw[h];simp)];rfl
def Ow(s:Bool)(c:UInt8):Bool:=s||(decide (c=40) || !(eW c))
def NZ(s:Bool)(c:UInt8):Bool:=if s=true then decide (c≠41)else decide (c=40)
theorem pA:∀ (l:Bytes) (s:Bool),oy Ow NZ s l=fR s l
 | [],s=>by cases s <;>rfl
 |c::r,true=>by
  rw[oy,fR,if_pos (by simp[Ow]),pA r];simp[NZ]
 |c::r,false=>by
  rw[oy,fR];by_cases h:c=40
  ·rw[if_pos h,if_pos (by simp[Ow,h]),pA r]
   simp[NZ,h]
  rw[if_neg h];cases hc:eW c with
  |true=>rw[if_neg (by simp[Ow,h,hc]),if_pos rfl]
  |false=>rw[if_pos (by simp[Ow,h,hc]),if_neg (by simp),pA r];simp[NZ,h]
theorem Jo(c:UInt8)(k:Nat)(h:k<256):(b2 c==(k:Int))=decide (c=UInt8.ofNat k):=by
 by_cases e:c=UInt8.ofNat k
 ·rw[decide_eq_true e,(CL c k h).mpr e];simp
 rw[decide_eq_false e,beq_eq_false_iff_ne];exact fun h2=>e ((CL c k h).mp h2)
theorem Lt:Cj 37 #[] none (fun _ c=>jk c) (fun s _=>s) :=
 ⟨fun _ _=>rfl,fun _ c W hi=>(jN (b2 c) W).mono fun _ _ h=>⟨h.1,h.2▸hi,h.2▸Fk.refl _ _⟩⟩
theorem a1u(c:UInt8)(w:World):bV prog 36 #[.int .u8 (b2 c)] w (.bool (eW c)):=by
 have hb:=fun W=>jN (b2 c) W;have AZ:(b2 c==44)=decide (c=44):=Jo c 44 (by omega);have hR:eW c=(decide (c=44)||mA (b2 c)):=rfl;rw[hR];have HB:=h_ hb;generalize b2 c=X at *;generalize decide (c=44)=q at *;generalize mA X=r at *;clear hb hR;cases q <;>
 ·go_enter func36,ntmps36
  go_wp2_with (first|(go_at_call 37;refine(HB.out _).mono ?_;rintro e w2 ⟨rfl,hw⟩;subst w2)|fail)
  go_ret;exact⟨by simp,rfl⟩
theorem a1v(c:UInt8)(w:World):bV prog 38 #[.int .u8 (b2 c)] w (.bool (eR c)):=by
 have hb:=fun W=>jN (b2 c) W;have hR:eR c=!(mA (b2 c)):=rfl;rw[hR];have HB:=h_ hb;generalize b2 c=X at *;generalize mA X=r at *;clear hb hR;go_enter func38,ntmps38
 go_wp2_with (first|(go_at_call 37;refine(HB.out _).mono ?_;rintro e w2 ⟨rfl,hw⟩;subst w2)|fail)
 go_ret;exact⟨rfl,rfl⟩
theorem ZH:Cj 36 #[] none (fun _ c=>eW c) (fun s _=>s) :=
 ⟨fun _ _=>rfl,fun _ c W hi=>(a1u c W).mono fun _ _ h=>⟨h.1,h.2▸hi,h.2▸Fk.refl _ _⟩⟩
theorem ZJ:Cj 38 #[] none (fun _ c=>eR c) (fun s _=>s) :=
 ⟨fun _ _=>rfl,fun _ c W hi=>(a1v c W).mono fun _ _ h=>⟨h.1,h.2▸hi,h.2▸Fk.refl _ _⟩⟩
theorem ZZ(f:Nat)(s:Bool)(c:UInt8)(w:World)(i:CB w f 4 #[.bool s]):Calls prog 78 #[.int .u8 (b2 c),.pointer (some ⟨f,0,none⟩)] w fun e w' =>
  e=.returned (.bool (Ow s c))∧CB w' f 4 #[.bool (NZ s c)]∧Fk (fun j=>j=f) w w':=by
 have HB:=h_ (fun W=>jN (b2 c) W);have AZ:(b2 c==44)=decide (c=44):=Jo c 44 (by omega);have h41:(b2 c==41)=decide (c=41):=Jo c 41 (by omega);have h40:(b2 c==40)=decide (c=40):=Jo c 40 (by omega);have hR:eW c=(decide (c=44)||mA (b2 c)):=rfl;have HI:=h_ i;have c1:=i.aF (j:=0) (v:=.bool s) rfl;have f1:=i.wy 0;clear i;cases s with
 |true =>
  have hn:(b2 c != 41)=NZ true c:=by
   unfold bne;rw[h41];simp[NZ]
  obtain⟨q,hq⟩:=az (NZ true c);rw[<-hq]at hn ⊢;clear AZ h41 h40 hR hq HB;have hwp:Ow true c=true:=rfl;rw[hwp];generalize b2 c=X at *;clear hwp;go_enter func78,ntmps78
  go_wp2_with fail
  go_ret;exact⟨rfl,HI.out.set 0 (.bool q),Fk.set (J:=fun j=>j=f) HI.out 0 _ rfl⟩
 |false =>
  by_cases e40:c=40
  ·rw[decide_eq_true e40]at h40
   have hwp:Ow false c=true:=by unfold Ow;rw[decide_eq_true e40];rfl
   have hwn:NZ false c=true:=by unfold NZ;rw[if_neg (by simp),decide_eq_true e40]
   rw[hwp,hwn];generalize b2 c=X at *;clear AZ h41 hR hwp hwn e40 HB;go_enter func78,ntmps78
   go_wp2_with fail
   go_ret;exact⟨rfl,HI.out.set 0 (.bool true),Fk.set (J:=fun j=>j=f) HI.out 0 _ rfl⟩
  rw[decide_eq_false e40]at h40;have hwp:Ow false c=!(eW c):=by unfold Ow;rw[decide_eq_false e40];rfl
  have hwn:NZ false c=false:=by unfold NZ;rw[if_neg (by simp),decide_eq_false e40]
  rw[hwp,hwn,hR];generalize b2 c=X at *;generalize decide (c=44)=q at *;generalize mA X=r at *;clear h41 hR hwp hwn e40;cases q with
  |true =>
   go_enter func78,ntmps78
   go_wp2_with (first|(go_at_call 37;refine(HB.out _).mono ?_;rintro e w2 ⟨rfl,hw⟩;subst w2)|fail)
   go_ret;exact⟨rfl,HI.out,Fk.refl _ _⟩
  |false =>
   cases r <;>
   ·go_enter func78,ntmps78
    go_wp2_with (first|(go_at_call 37;refine(HB.out _).mono ?_;rintro e w2 ⟨rfl,hw⟩;subst w2)|fail)
    go_ret;exact⟨rfl,HI.out,Fk.refl _ _⟩
theorem ZG(f:Nat):Cj 78 #[.pointer (some ⟨f,0,none⟩)] (some f) Ow NZ :=
 ⟨fun _ _=>rfl,fun s c W hi=>(ZZ f s c W (hi f rfl)).mono fun _ _ h=>⟨h.1,fun b hb=>by obtain rfl:f=b:=bp hb;exact h.2.1,h.2.2.more fun j hj=>by subst hj;rfl⟩⟩
theorem Fk.row{J:Nat->Prop}{w w':World}(h:Fk J w w'){base e n:Nat}{v:Value}{xs:List Value}(i:w.ownsRow base e 1 v n xs)(hn:∀ g,base<=g->g<w.heap.size->v.ownBlock=some g->¬ J g):w'.ownsRow base e 1 v n xs:=by
 refine⟨i.1,?_⟩;rcases i.2 with h0|⟨g,cap,cur,e1,hg,hh,hr⟩
 ·exact .inl h0
 have hlt:=(bQ.1 hh).1;exact .inr ⟨g,cap,cur,e1,hg,(h.k g hlt (hn g hg hlt (by rw[e1];rfl))).trans hh,hr⟩

theorem Fk.step{J K:Nat->Prop}{w w1 w2:World}(h:Fk J w w1)(k:Fk K w1 w2)(hk:∀ j,j<w.heap.size->K j->J j):Fk J w w2 :=
 ⟨k.os.trans h.os,k.tape.trans h.tape,k.output.trans h.output,ap h.s k.s,fun j hj hn=>(k.k j (aQ hj h.s) fun hK=>hn (hk j hj hK)).trans (h.k j hj hn)⟩
theorem Fk.M2{B:Nat}{w w':World}(h:Below B w w'):Fk (fun j=>B<=j) w w':=⟨h.os,h.tape,h.output,h.size,fun j _ hn=>h.block j (Nat.lt_of_not_le hn)⟩
theorem vi(p:UInt8->Bool):∀ l:Bytes,l.drop (l.takeWhile p).length=l.dropWhile p
 | []=>rfl
 |c::r=>by
  cases h:p c with
  |true=>rw[aY h,aU h,ag,Fo,vi p r]
  |false=>rw[aX (by rw[h];simp),bn (by rw[h];simp)];rfl
theorem tB(p:UInt8->Bool)(l:Bytes):(l.takeWhile p).length<=l.length:=(yJ _).length_le
def a69(l:Bytes)(k A B:Nat)(w:World)(R:List Bytes×Bytes):Ending->World->Prop:=fun e w'=>∃ (wv:Value) (k':Nat),e=.returned wv∧k<=k'∧k'<=l.length∧l.drop k'=R.2 ∧
 w'.ownsRow w.heap.size 9 1 wv R.1.length (Strs R.1)∧CB w' A 3 #[.int .i64 (k':Int)]∧CB w' B 9 #[.string (bs l)]∧Fk (fun j=>j=A) w w'
theorem vG(l:Bytes)(k A B:Nat)(w:World)(hl:l.length<=1024000000)(hkl:k<=l.length)(cA:CB w A 3 #[.int .i64 k])(cB:CB w B 9 #[.string (bs l)])(JJ:B≠A) :
  Calls prog 41 #[.func (.func 35) #[] #[.pointer (some ⟨A,0,none⟩),.pointer (some ⟨B,0,none⟩)]] w (a69 l k A B w (jY (l.drop k))):=by
 obtain⟨i1,hi1,hz1,hz2,hz3⟩:=info_parts mT;obtain⟨R,hR⟩:=az (jY (l.drop k));rw[<-hR];have HR:=h_ hR;have lZ:=h_ (show A<w.heap.size∧B<w.heap.size from⟨cA.lt,cB.lt⟩);have HA:=h_ cA;have HB:=h_ cB;have vj:=h_ JJ;obtain⟨N,hN⟩:=az (l.length);have HN:=h_ hN;rw[<-hN]at hl hkl;clear hR cA cB JJ hN;go_enter func41,ntmps41
 go_wp2_with fail
 go_loopg [3] (N+1) (fun gf wv wr=>∃ (j:Nat) (acc:List Bytes),k<=j∧j<=N∧N-j<gf∧acc.length<=j∧Hid (R=(acc++(jY (l.drop j)).1,(jY (l.drop j)).2))∧Hid (wr.ownsRow w.heap.size 9 1 wv acc.length (Strs acc))∧Hid (CB wr A 3 #[.int .i64 (j:Int)])∧Hid (CB wr B 9 #[.string (bs l)])∧Hid (Fk (fun j=>j=A) w wr))
 case atStart=>exact⟨k,[],af _,hkl,by omega,by simp,by rw[HR.out];rfl,World.ownsRow_nil _ _ _ _,HA.out,HB.out,Fk.refl _ _⟩
 case round =>
  obtain⟨j,acc,hkj,hjN,hf,hal,HW,HO,HA1,HB1,HF⟩:=hrel;obtain⟨g',rfl⟩:∃ g',gk=g'+1:=⟨gk-1,by omega⟩;have hjl:j<=l.length:=by rw[<-HN.out];exact hjN
  have hs1:=r8 Lt l j A B false wr (by rw[<-HN.out];exact hl) hjl HA1.out HB1.out (fun b h=>by cases h) (by simp) (by simp) vj.out;rw[uS]at hs1;obtain⟨j1,hj1⟩:=az (j+((l.drop j).takeWhile jk).length)
  have V7:j1<=l.length:=by
   have:=tB jk (l.drop j);rw[ah]at this;omega
  have hd1:l.drop j1=(l.drop j).dropWhile jk:=by rw[hj1,<-List.drop_drop,vi]
  rw[<-hj1]at hs1;have hw:=IF (l.drop j);rw[<-hd1]at hw;obtain⟨n2,hn2⟩:=az (fR false (l.drop j1));rw[<-hn2]at hw
  have a9D:n2<=l.length-j1:=by
   have:=mV (l.drop j1) false;rw[ah]at this;omega
  have HS1:=h_ hs1;have HS2:=h_ (fun(f:Nat) (W:World) (a:CB W A 3 #[.int .i64 (j1:Int)]) (b:CB W B 9 #[.string (bs l)]) (c:CB W f 4 #[.bool false]) (d:f≠A) (e:f≠B)=>r8 (ZG f) l j1 A B false W (by rw[<-HN.out];exact hl) V7 a b (fun b h=>by obtain rfl:f=b:=bp h;exact c) (by simpa using d) (by simpa using e) vj.out);rw[pA,<-hn2]at HS2;obtain⟨x,hx⟩:=az ((l.drop j1).take n2);rw[<-hx]at HS2 hw;have hxl:x.length=n2:=by rw[hx,aE,ah];omega
  have hjj:j<=j1:=by omega
  have Ud:=h_ (show j1+n2<=N by have:=HN.out;omega);obtain⟨t,ht⟩:=az (bs x);rw[show S x=Value.string t by rw[ht]]at HS2;clear hs1 hj1 hd1 hn2 a9D V7 hjl;by_cases h0:n2=0
  ·rw[if_pos h0]at hw
   have hx0:x=[]:=ak (by omega);have he:t.toList=[]:=by rw[ht,hx0,ay]
   have he1:t.toList.isEmpty=true:=by rw[he];rfl
   have vm:=h_ (show R=(acc,l.drop j1) by rw[HW.out,hw];simp);have HT:=h_ ht;clear ht hx hw hx0 hxl HW
   go_wp2_with fail
   refine HS1.out.mono ?_;rintro e w3 ⟨rfl,hA,hB,hF⟩;have OC:=h_ hA;have HB3:=h_ hB;have UI:=h_ (HF.out.step hF (fun i _ h=>h.elim id (fun h=>by cases h)));have kq:=h_ (hF.row HO.out (fun g h1 _ _ h2=>h2.elim (fun e=>by have:=lZ.out.1;omega) (fun e=>by cases e)));clear hA hB hF
   go_upto_region 4 with fail
   have Ld:=h_ (CB.new w3 4 #[.bool false]);have hb4:=(Below.refl w3.heap.size w3).alloc (af _) (.cells #[.bool false] 4);obtain⟨w4,hw4⟩:=az (w3.alloc (.cells #[.bool false] 4));rw[<-hw4]at Ld hb4 ⊢;have HA4:=h_ (OC.out.keep hb4);have eM:=h_ (HB3.out.keep hb4);have LT4:=h_ UI.out.s;have NE4:=h_ (show w3.heap.size≠A∧w3.heap.size≠B from by have:=lZ.out;have:=UI.out.s;omega);have HF4:=h_ (UI.out.trans (Fk.of_below hb4));have rk:=h_ (own_below' kq.out hb4);have HG4:=h_ (fun g hg=>(kq.out.lt g hg).2);clear hw4 hb4
   go_wp2_with fail
   refine(HS2.out _ _ HA4.out eM.out Ld.out NE4.out.1 NE4.out.2).mono ?_;rintro e w5 ⟨rfl,hA,hB,hF⟩;have Ux:=h_ hA;have gH:=h_ hB;have HF5:=h_ (HF4.out.step hF (fun i h1 h=>h.elim id (fun h=>by have:=LT4.out;have:=bp h;omega)));have yk:=h_ (hF.row rk.out (fun g h1 _ h3 h2=>h2.elim (fun e=>by have:=lZ.out.1;omega) (fun e=>by have:=HG4.out g h3;have:=bp e;omega)));clear hA hB hF
   go_wp2_with fail
   go_ret;exact⟨_,j1,rfl,by omega,by have:=Ud.out;have:=HN.out;omega,by rw[vm.out],by rw[vm.out];exact yk.out,by have:=Ux.out;rw[h0]at this;exact this,gH.out,HF5.out⟩
  rw[if_neg h0]at hw
  have he:¬ t.toList=[]:=by
   rw[ht,ay];rintro rfl;exact h0 (by simpa using hxl.symm)
  have he1:t.toList.isEmpty=false:=by simpa using he
  have Cu:=h_ (show R=((acc++[x])++(jY (l.drop (j1+n2))).1,(jY (l.drop (j1+n2))).2) by
   rw[HW.out,hw,rh];simp)
  have HT:=h_ (show Value.string t=.string (bs x) by rw[ht]);have hpos:0<n2:=Jb h0;clear ht hx hw hxl HW h0
  go_wp2_with fail
  refine HS1.out.mono ?_;rintro e w3 ⟨rfl,hA,hB,hF⟩;have OC:=h_ hA;have HB3:=h_ hB;have UI:=h_ (HF.out.step hF (fun i _ h=>h.elim id (fun h=>by cases h)));have kq:=h_ (hF.row HO.out (fun g h1 _ _ h2=>h2.elim (fun e=>by have:=lZ.out.1;omega) (fun e=>by cases e)));clear hA hB hF
  go_upto_region 4 with fail
  have Ld:=h_ (CB.new w3 4 #[.bool false]);have hb4:=(Below.refl w3.heap.size w3).alloc (af _) (.cells #[.bool false] 4);obtain⟨w4,hw4⟩:=az (w3.alloc (.cells #[.bool false] 4));rw[<-hw4]at Ld hb4 ⊢;have HA4:=h_ (OC.out.keep hb4);have eM:=h_ (HB3.out.keep hb4);have LT4:=h_ UI.out.s;have NE4:=h_ (show w3.heap.size≠A∧w3.heap.size≠B from by have:=lZ.out;have:=UI.out.s;omega);have HF4:=h_ (UI.out.trans (Fk.of_below hb4));have rk:=h_ (own_below' kq.out hb4);have HG4:=h_ (fun g hg=>(kq.out.lt g hg).2);clear hw4 hb4
  go_wp2_with fail
  refine(HS2.out _ _ HA4.out eM.out Ld.out NE4.out.1 NE4.out.2).mono ?_;rintro e w5 ⟨rfl,hA,hB,hF⟩;have Ux:=h_ hA;have gH:=h_ hB;have HF5:=h_ (HF4.out.step hF (fun i h1 h=>h.elim id (fun h=>by have:=LT4.out;have:=bp h;omega)));have yk:=h_ (hF.row rk.out (fun g h1 _ h3 h2=>h2.elim (fun e=>by have:=lZ.out.1;omega) (fun e=>by have:=HG4.out g h3;have:=bp e;omega)));clear hA hB hF;have hbs:w.heap.size<=w5.heap.size:=HF5.out.s;have hj2:=Ud.out
  go_wp2_with (first
   |(at_builtin;(refine eO rfl (.tmp 14) (.tmp 16) _ rfl w.heap.size 9 i1 (.string ⟨#[]⟩) 16 underlying28 hi1 hz1 hz2 hz3 (by decide) _ _ acc.length (Strs acc) rfl yk.out (.string t) rfl rfl (by omega) (by decide) (by omega) ?_);intro v9 w9 jg Rg tR;have Lg:=h_ jg;clear jg;have ka:=h_ tR;clear tR)
   |fail)
  go_roundg g'
  case measure=>omega
  case rel =>
   refine⟨j1+n2,acc++[x],by omega,by omega,by omega,by simp;omega,Cu.out,?_,?_,?_,HF5.out.step (Fk.M2 ka.out) (fun i h1 h2=>absurd h1 (Nat.not_lt_of_le h2))⟩
   ·have h9:=Lg.out
    rw[HT.out]at h9;rw[ae,e7,jW];exact h9
   ·exact⟨(ka.out.block A lZ.out.1).trans Ux.out.a⟩
   exact⟨(ka.out.block B lZ.out.2).trans gH.out.a⟩

theorem LE:(prog.info? 45).map (fun i=>(i.zero,i.size,i.bytes))=some (some (.agg (bA aR C0)),8,88):=by kernel_rfl
theorem Ta{W:World}{b1 e1 s1 n1 b2 e2 s2 n2:Nat}{v1 v2:Value}{x1 x2:List Value}(h1:W.ownsRow b1 e1 s1 v1 n1 x1)(h2:W.ownsRow b2 e2 s2 v2 n2 x2)(he:e1≠e2):∀ k,v1.ownBlock=some k->v2.ownBlock≠some k:=by
 intro k hk hk2;rcases h1.2 with⟨rfl,_⟩|⟨g,cap,cur,rfl,_,hh,_⟩
 ·cases hk
 rcases h2.2 with⟨rfl,_⟩|⟨g2,cap2,b3b,rfl,_,Q7,_⟩
 ·cases hk2
 obtain rfl:g=k:=bp hk;obtain rfl:g2=g:=bp hk2;rw[hh]at Q7;injection Q7 with Q7
 injection Q7 with _ Q7
 exact he Q7
def k8(W:World)(base:Nat)(v:Value)(l:List da):Prop:=∃ ps:List (Value×da),ps.map (·.2)=l∧W.ownsRow base 45 8 v ps.length (ps.flatMap fun p=>(bA p.1 p.2).toList) ∧
 ∀p∈ps,W.ownsRow base 9 1 p.1 p.2.words.length (Strs p.2.words)
theorem k8.nil(W:World)(base:Nat):k8 W base (.slice none 0 0) []:=⟨[],rfl,World.ownsRow_nil _ _ _ _,fun p hp=>by cases hp⟩
theorem Fk.BB{J:Nat->Prop}{w w':World}(h:Fk J w w'){base e s n:Nat}{v:Value}{xs:List Value}(i:w.ownsRow base e s v n xs)(hn:∀ g,base<=g->g<w.heap.size->¬ J g):w'.ownsRow base e s v n xs:=by
 refine⟨i.1,?_⟩;rcases i.2 with h0|⟨g,cap,cur,e1,hg,hh,hr⟩
 ·exact .inl h0
 have hlt:=(bQ.1 hh).1;exact .inr ⟨g,cap,cur,e1,hg,(h.k g hlt (hn g hg hlt)).trans hh,hr⟩
theorem k8.fk{W W':World}{base:Nat}{v:Value}{l:List da}{J:Nat->Prop}(c:k8 W base v l)(h:Fk J W W')(hn:∀ g,base<=g->g<W.heap.size->¬ J g):k8 W' base v l:=by
 obtain⟨ps,h1,h2,h3⟩:=c;exact⟨ps,h1,h.BB h2 hn,fun p hp=>h.BB (h3 p hp) hn⟩
theorem k8.below{W W':World}{base:Nat}{v:Value}{l:List da}(c:k8 W base v l)(h:Below W.heap.size W W'):k8 W' base v l:=c.fk (J:=fun _=>False) ⟨h.os,h.tape,h.output,h.size,fun j hj _=>h.block j hj⟩ fun _ _ _ h=>h
theorem k8.base{W:World}{base base':Nat}{v:Value}{l:List da}(c:k8 W base v l)(hb:base'<=base):k8 W base' v l:=by
 have key:∀ {e s n:Nat} {v:Value} {xs:List Value},W.ownsRow base e s v n xs->W.ownsRow base' e s v n xs:=by
  intro e s n v xs i;refine⟨i.1,?_⟩;rcases i.2 with h0|⟨g,cap,cur,e1,hg,hr⟩
  ·exact .inl h0
  exact .inr ⟨g,cap,cur,e1,ap hb hg,hr⟩
 obtain⟨ps,h1,h2,h3⟩:=c;exact⟨ps,h1,key h2,fun p hp=>key (h3 p hp)⟩
theorem k8.len{W:World}{base:Nat}{v:Value}{l:List da}(c:k8 W base v l):∃ a cp,v=.slice a l.length cp:=by
 obtain⟨ps,rfl,h2,_⟩:=c;rw[am];rcases h2.2 with⟨rfl,h0⟩|⟨g,cap,cur,rfl,_⟩
 ·exact⟨none,0,by rw[h0]⟩
 exact⟨_,_,rfl⟩
def XI(B:Nat)(W:World)(v:Value)(l:List da):Prop :=
 ∃c,l.length<=c∧((l=[]∧∃ a,v=.slice a 0 c)∨∃ b o,b<B∧v=.slice (some ⟨b,o,none⟩) l.length c∧∀ k (hk:k<l.length),∃wv,W.rangeAt b (o+k*8) (bA wv l[k]).toList∧Sl B W wv (l[k].words.map S))
theorem u6{α:Type}(f:α->List Value)(n:Nat):∀ (ps:List α) (_:∀ p∈ps,(f p).length=n) (k j:Nat) (hk:k<ps.length) (_:j<n),(ps.flatMap f)[k*n+j]? = (f ps[k])[j]?
 | [],_,k,j,hk,_=>absurd hk (cg _)
 |p::ps,h,0,j,hk,hj=>by
  rw[ch,Nat.zero_mul,bC,cH (by rw[h p (by simp)];exact hj)];rfl
 |p::ps,h,k+1,j,hk,hj=>by
  have ih:=u6 f n ps (fun q hq=>h q (by simp[hq])) k j (by simpa using hk) hj;rw[ch,cu (by rw[h p (by simp),Nat.succ_mul];omega),h p (by simp)];rw[show(k+1)*n+j-n=k*n+j by rw[Nat.succ_mul];omega];exact ih
theorem k8.a3P{W:World}{base:Nat}{v:Value}{l:List da}(c:k8 W base v l)(hl:l.length<=maxLen):XI W.heap.size W v l:=by
 obtain⟨ps,rfl,h2,h3⟩:=c;rcases h2.2 with⟨rfl,h0⟩|⟨g,cap,cur,rfl,hg,hh,hnc,hcm,hsz,htk⟩
 ·have:ps=[]:=ak h0
  subst this;exact⟨0,af _,.inl ⟨rfl,none,rfl⟩⟩
 refine⟨cap,by rw[am];exact hnc,.inr ⟨g,0,(bQ.1 hh).1,by rw[am],fun k hk=>?_⟩⟩;have hk':k<ps.length:=by simpa using hk
 refine⟨ps[k].1,fun j x hj=>?_,?_⟩
 ·rw[cR]at hj
  have hj8:j<8:=(bf.1 hj).1;have hf:=u6 (fun p:Value×da=>(bA p.1 p.2).toList) 8 ps (fun p _=>rfl) k j hk' hj8;have:=h2.cells (g:=g) rfl (k*8+j) x (hf.trans hj);rw[addr_add,<-Nat.add_assoc]at this;exact this
 rw[cR];exact Sl.dM (lq (h3 ps[k] (bw hk')))
theorem hs1(u:Bytes):Lib.hasSuffix u [44]=lf u:=by
 cases hu:u.reverse with
 |nil =>
  have:u=[]:=by simpa using hu
  subst this;decide
 |cons x r =>
  have:u=r.reverse++[x]:=by
   have:=congrArg List.reverse hu
   simpa using this
  rw[this,a5W];unfold lf;rw[j5,decide_eq_decide,Pp];simp
theorem a0H(u:Bytes)(w:World)(hu:u.length<=1024000000):bV prog 39 #[.string (bs u),.string (bs [44])] w (.bool (lf u)):=by
 have h:=Any.strings_HasSuffix laysHS (bs u) (bs [44]) w (by rw[aM];omega);rw[show(bs u).data.toList=u from dR u,show(bs [44]).data.toList=[44]from dR _,hs1]at h;exact h
theorem a1K(u:Bytes)(w:World)(hu:u.length<=1024000000):bN prog 40 #[.string (bs u),.string (bs [44])] w (S (g9 u)):=by
 have h116:(prog.info? (laysTR_ren.t 116)).map (fun i=>(i.zero,i.size))=some (some (.agg (Array.replicate 256 (.bool false))),256):=by kernel_rfl
 have h:=Any.strings_TrimRight_laid laysTR h116 (bs u) (bs [44]) w (by rw[aM];omega) (by decide) (ascii_of_all (by decide));rw[show(bs u).data.toList=u from dR u,show(bs [44]).data.toList=[44]from dR _]at h;refine h.mono ?_;rintro e w' ⟨rfl,hb⟩;refine⟨?_,hb⟩
 have e1:Lib.trimRightS u [44]=g9 u:=by
  unfold Lib.trimRightS g9
  congr 2
  funext x
  by_cases hx:x=44 <;>simp[hx]
 rw[e1];rfl
section
variable {ops:Array Oper} {rest:List Oper} {o:Oper} {a:Act} {w:World} {Q:Exit->Act->World->Prop}
theorem a3C(wv:Value)(c:da)(w:World):(Instr.buildSlice 38 1 #[(0,.agg (bA wv c))]).run prog w=.ok (.slice (some ⟨w.heap.size,0,none⟩) 1 1) (w.alloc (.cells (bA wv c) 45)):=by kernel_rfl
theorem Jr(hg:o.guard=none)(y:Operand)(ho:o.op=.buildSlice 38 1 #[(0,y)])(wv:Value)(c:da)(hy:a.eval y=.agg (bA wv c))
  (h:wpList prog ops Q rest (a.put o.dst (.slice (some ⟨w.heap.size,0,none⟩) 1 1)) (w.alloc (.cells (bA wv c) 45))):wpList prog ops Q (o::rest) a w:=by
 refine wpList_plain hg fun K hK=>?_;unfold Oper.wp execOp;have e:(#[(0,y)]:Array (Nat×Operand)).map (fun(i,x)=>(i,a.eval x))=#[(0,.agg (bA wv c))]:=by simp[hy]
 simp only[ho,Sem.run_bind,Sem.run_pure,Result.andThen_ok,e,a3C];exact hK _ _ h
theorem YL(hgd:o.guard=none)(s x:Operand)(ho:o.op=.call {callee:=.builtin .append,args:=#[s,x],argTypes:=#[38,38]})
  (base:Nat) {v wv:Value} {l:List da} {c:da} (hs:a.eval s=v) (hown:k8 w base v l) (hw:w.ownsRow base 9 1 wv c.words.length (Strs c.words)) (hx:a.eval x=.slice (some ⟨w.heap.size,0,none⟩) 1 1)
  (h63:l.length+1<=1099511627776) (hbase:base<=w.heap.size)
  (h:∀ v' w',k8 w' base v' (l++[c])->Below base w w'->wpList prog ops Q rest (a.put o.dst v') w') :
  wpList prog ops Q (o::rest) a (w.alloc (.cells (bA wv c) 45)):=by
 obtain⟨i,hi,hz,hz1,hz2⟩:=info_parts LE;obtain⟨ps,rfl,h2,h3⟩:=hown;rw[am]at h63;have hb0:Below w.heap.size w (w.alloc (.cells (bA wv c) 45)):=(Below.refl _ _).alloc (af _) _;refine wpList_append_own_at _ hgd s x _ ho base 45 i _ 8 88 underlying38 hi hz hz1 hz2 (by rfl) (by decide) v ps.length _ hs (h2.alloc _) ⟨w.heap.size,0,none⟩ 1 1 (bA wv c).toList hx rfl ?_ (Js (bm hw)) (by unfold maxLen;omega) (by omega) (ap hbase hb0.size) ?_
 ·intro j u hj
  rw[addr_add,bC];have hj2:(bA wv c)[j]? = some u:=by rw[<-Array.getElem?_toList];exact hj
  rw[World.cell?_alloc_mark];exact hj2
 intro v' w' ho' hg _ _
 have hkeep:∀ {u:Value} {ws:List Bytes},w.ownsRow base 9 1 u ws.length (Strs ws)->w'.ownsRow base 9 1 u ws.length (Strs ws):=by
  intro u ws hu;have hu1:=own_below' hu hb0;refine⟨hu1.1,?_⟩;rcases hu1.2 with h0|⟨g,cap,cur,e1,hgb,hh,hr⟩
  ·exact .inl h0
  refine .inr ⟨g,cap,cur,e1,hgb,(hg.block g (bQ.1 hh).1 fun e=>?_).trans hh,hr⟩;exact Ta hu1 (h2.alloc (.cells (bA wv c) 45)) (by decide) g (by rw[e1];rfl) e.symm
 refine h v' w' ⟨ps++[(wv,c)],by simp,?_,?_⟩ ?_
 ·rw[ae,cQ]
  simpa using ho'
 ·intro p hp
  rcases au.mp hp with hp|hp
  ·exact hkeep (h3 p hp)
  obtain rfl:p=(wv,c):=by simpa using hp
  exact hkeep hw
 exact((hb0.mono hbase)).grown hg (ap hbase hb0.size) (fun k hk=>(h2.lt k hk).1)
end
end Go.Proofs.YtmndlfglgcioeaaGreatDoor
