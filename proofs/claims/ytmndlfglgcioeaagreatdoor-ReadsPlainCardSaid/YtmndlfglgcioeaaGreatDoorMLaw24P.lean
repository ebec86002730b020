/- RghA Law24P: joined. -/
import Derived.Test.YtmndlfglgcioeaaGreatDoorGBld
import Derived.Test.YtmndlfglgcioeaaGreatDoorGUtfD
import Derived.Test.YtmndlfglgcioeaaGreatDoorShelf5
import Derived.Test.YtmndlfglgcioeaaGreatDoorGRdsL
set_option maxHeartbeats 40000000
namespace Go.Proofs.YtmndlfglgcioeaaGreatDoor
open Tryz
open Go.RowKit
set_option maxRecDepth 10000
theorem Hq (w:World) (e:TypeId):(w.alloc (.cells #[] e)).ownsRow 0 e 1 (.slice (some ⟨w.heap.size,0,none⟩) 0 0) 0 (Lib.byteCells []) :=
 ⟨by simp[Lib.byteCells],.inr ⟨w.heap.size,0,#[],rfl,aO _,heap_alloc_new w _,ae _,by simp,rfl,rfl⟩⟩
def pW (w0 w:World) (e:TypeId) (v:Value) (l:Bytes):Prop :=
 w.ownsRow 0 e 1 v l.length (Lib.byteCells l)∧(∀k,v.ownBlock=some k->w0.heap.size<=k)∧Below w0.heap.size w0 w
theorem pW.new (w:World) (e:TypeId):pW w (w.alloc (.cells #[] e)) e (.slice (some ⟨w.heap.size,0,none⟩) 0 0) [] :=
 ⟨Hq w e,fun k hk=>by simp[Value.ownBlock]at hk;omega,(Below.refl _ _).alloc (ae _) _⟩
theorem pW.alloc {w0 w:World} {e:TypeId} {v:Value} {l:Bytes} (h:pW w0 w e v l) (o:Obj):pW w0 (w.alloc o) e v l :=
 ⟨h.1.alloc _,h.2.1,h.2.2.alloc h.2.2.size _⟩
theorem pW.step {P:Program} {w0 w:World} {e:TypeId} {v:Value} {l:Bytes} (h:pW w0 w e v l) (t ty:TypeId) (i:TypeInfo) (ht:P.underlying t=some (.slice e)) (hi:P.info? e=some i) (hz:i.zero=some (.int .u8 0))
  (hsize:i.size=1) (hby:i.bytes=1) (m:Bytes) (hlen:l.length+m.length<=1000000) (B:Nat) (x:Value) (hx:Sl B w x (Lib.byteCells m)) :
  ∃v' w',(Builtin.append_ #[t,t] ty #[v,x]).run P w=.ok v' w'∧pW w0 w' e v' (l++m):=by
 obtain⟨ho,hk,hb⟩:=h
 obtain⟨v',w',hr,ho',hgr,hloc⟩:=mO (P:=P) w t ty e i ht hi hz hsize hby v l.length l m ho (by omega) B x hx
 refine⟨v',w',hr,?_,?_,hb.grown hgr hb.size hk⟩
 ·rw[af];exact ho'
 intro k hk'
 rcases hloc with h|⟨j,h,hj⟩
 ·exact hk k (by rw[<-h];exact hk')
 rw[hk']at h
 injection h with h
 have:=hb.size
 omega
theorem pW.sl {w0 w:World} {e:TypeId} {v:Value} {l:Bytes} (h:pW w0 w e v l):Sl w.heap.size w v (Lib.byteCells l):=Sl.bL h.1
theorem pW.src {w0 w:World} {e:TypeId} {v:Value} {l:Bytes} (h:pW w0 w e v l) {x:Value} {m:Bytes} (hx:Sl w0.heap.size w0 x (Lib.byteCells m)):Sl w0.heap.size w x (Lib.byteCells m):=hx.below h.2.2
theorem YX {P:Program} (w:World) (t ty e:TypeId) (i:TypeInfo) (ht:P.underlying t=some (.slice e)) (hi:P.info? e=some i) (hz:i.zero=some (.int .u8 0))
  (hsize:i.size=1) (hby:i.bytes=1) (x y z:Bytes) (ys:List Int) (hys:ys.map (Value.int .u8)=Lib.byteCells y) (n:Nat) (hn:n=y.length) (hlen:x.length+y.length+z.length<=1000000) (vx vz:Value)
  (hx:Sl w.heap.size w vx (Lib.byteCells x)) (hz':Sl w.heap.size w vz (Lib.byteCells z)) :
  ∃v1 w1 v2 w2 v3 w3,(Builtin.append_ #[t,t] ty #[.slice (some ⟨w.heap.size,0,none⟩) 0 0,vx]).run P (w.alloc (.cells #[] e))=.ok v1 w1 ∧
   (Builtin.append_ #[t,t] ty #[v1,.slice (some ⟨w1.heap.size,0,none⟩) n n]).run P (w1.alloc (.cells (ys.map (Value.int .u8)).toArray e))=.ok v2 w2 ∧
   (Builtin.append_ #[t,t] ty #[v2,vz]).run P w2=.ok v3 w3∧Sl w3.heap.size w3 v3 (Lib.byteCells (x++y++z))∧Below w.heap.size w w3:=by
 subst hn
 have g0:=pW.new w e
 obtain⟨v1,w1,r1,g1⟩:=g0.step (P:=P) t ty i ht hi hz hsize hby x (by simp;omega) _ vx (g0.src hx)
 have hy:Sl (w1.heap.size+1) (w1.alloc (.cells (ys.map (Value.int .u8)).toArray e)) (.slice (some ⟨w1.heap.size,0,none⟩) y.length y.length) (Lib.byteCells y):=by
  refine⟨y.length,by rw[Lib.byteCells_length];exact ae _,by unfold maxLen;omega,.inr ⟨w1.heap.size,0,by omega,by rw[Lib.byteCells_length],fun j hj=>?_⟩⟩
  rw[bk,World.cell?_alloc_mark,hys]
  simp[List.getElem?_eq_getElem hj]
 obtain⟨v2,w2,r2,g2⟩:=(g1.alloc (.cells (ys.map (Value.int .u8)).toArray e)).step (P:=P) t ty i ht hi hz hsize hby y (by simp;omega) _ _ hy
 obtain⟨v3,w3,r3,g3⟩:=g2.step (P:=P) t ty i ht hi hz hsize hby z (by simp;omega) _ vz (g2.src hz')
 exact⟨v1,w1,v2,w2,v3,w3,r1,r2,r3,g3.sl,g3.2.2⟩
theorem UD (l m r:Bytes) (b:ByteArray) (hb:bs m=b):((bs (l++m++r)).toList==(bs l++b++bs r).toList)=true:=by
 subst hb
 rw[gO,gO,au,mn]
 simp
theorem wu (s:ByteArray) (w:World) (hs:s.size<=9223372036854775807) (hT:rx w) :
  Calls prog 22 #[.string s] w fun e w'=>e=.returned (.bool (Lib.validD (ls s)))∧Below w.heap.size w w':=by
 have hv:=Any.utf8_ValidString laysVS s w hs hT
 have hv':Calls prog 55 #[.string s] w fun e w'=>e=.returned (.bool (Lib.validD (ls s)))∧Below w.heap.size w w':=hv
 have HV:=h_ hv';clear hv hv' hT
 go_enter func22,ntmps22
 go_wp2_with (go_at_call 55;refine(HV.out).mono ?_;rintro e w1 ⟨rfl,hb1⟩;have HB1:=h_ hb1;clear hb1)
 go_ret
 exact⟨rfl,HB1.out⟩
end Go.Proofs.YtmndlfglgcioeaaGreatDoor
set_option maxHeartbeats 40000000
namespace Go.Proofs.YtmndlfglgcioeaaGreatDoor
open Tryz
open Go.RowKit
set_option maxRecDepth 10000
theorem Dj {la lb all:Bytes} (ha:all=la++[0]++lb) (h:∀ i (hi:i<all.length),all[i]≠38∧(i≠la.length->all[i]≠0)):(∀x∈la,x≠0∧x≠38)∧(∀x∈lb,x≠0∧x≠38):=by
 subst ha
 constructor
 ·intro x hx
  obtain⟨i,hi,rfl⟩:=gY.mp hx
  have h2:=h i (by simp only[af,ag,aQ];omega)
  rw[a1b (by simp only[af,ag,aQ];omega),a1b hi]at h2
  exact⟨h2.2 (by omega),h2.1⟩
 intro x hx
 obtain⟨i,hi,rfl⟩:=gY.mp hx
 have h2:=h (la.length+1+i) (by simp only[af,ag,aQ];omega)
 rw[XY (by simp only[af,ag,aQ];omega)]at h2
 simp only[af,ag,aQ,bk,Nat.add_sub_cancel_left]at h2
 exact⟨h2.2 (by omega),h2.1⟩
theorem readsPlain_walk (va:Value) (la:Bytes) (vb:Value) (lb:Bytes) (w:World) (ha:Sl w.heap.size w va (Lib.byteCells la)) (hb:Sl w.heap.size w vb (Lib.byteCells lb)) (hE:Env w) :
  Calls prog 7 #[va,vb] w fun e w'=>e=.returned (.bool true)∧Below w.heap.size w w':=by
 have uF:=h_ (ii w hE)
 have HE:=h_ hE
 obtain⟨aa,ca,rfl⟩:=dt ha
 obtain⟨ab,cb,rfl⟩:=dt hb
 simp only[Lib.byteCells_length]at ha hb ⊢
 obtain⟨A,hA⟩:=ap (la.length)
 obtain⟨N,hN⟩:=ap (lb.length)
 have HA:=h_ hA
 have HN:=h_ hN
 rw[<-hA]at ha ⊢
 rw[<-hN]at hb ⊢
 have Ea:=h_ ha
 have HVB:=h_ hb
 clear ha hb hA hN hE
 by_cases h1:200<A
 ·have h1':(200:Int)<(A:Int):=by omega
  go_enter func7,ntmps7
  go_wp2_with (first
   |(go_at_call 9;refine(uF.out).mono ?_;rintro e w1 ⟨rfl,hb⟩;have B1:=h_ hb;clear hb)
   |fail)
  go_ret
  exact⟨rfl,B1.out⟩
 have h1':¬ (200:Int)<(A:Int):=by omega
 by_cases h2:200<N
 ·have h2':(200:Int)<(N:Int):=by omega
  go_enter func7,ntmps7
  go_wp2_with (first
   |(go_at_call 9;refine(uF.out).mono ?_;rintro e w1 ⟨rfl,hb⟩;have B1:=h_ hb;clear hb)
   |fail)
  go_ret
  exact⟨rfl,B1.out⟩
 have h2':¬ (200:Int)<(N:Int):=by omega
 obtain⟨sa,hsa⟩:=ap (bs la)
 obtain⟨sb,hsb⟩:=ap (bs lb)
 have hza:sa.size<=200:=by rw[hsa,aB];have:=HA.out;omega
 have hzb:sb.size<=200:=by rw[hsb,aB];have:=HN.out;omega
 obtain⟨ra,hra⟩:=ap (decide (eH la=la))
 obtain⟨rb,hrb⟩:=ap (decide (eH lb=lb))
 have FL:=h_ (fun W (h:Below w.heap.size w W)=>(show Calls prog 22 #[.string sa] W fun e w'=>e=.returned (.bool ra)∧Below W.heap.size W w' from by
  have h2:=wu sa W (by omega) (HE.out.below h).1
  rw[hsa,du,wU,<-hra]at h2
  rw[hsa]
  exact h2))
 have IC:=h_ (fun W (h:Below w.heap.size w W)=>(show Calls prog 22 #[.string sb] W fun e w'=>e=.returned (.bool rb)∧Below W.heap.size W w' from by
  have h2:=wu sb W (by omega) (HE.out.below h).1
  rw[hsb,du,wU,<-hrb]at h2
  rw[hsb]
  exact h2))
 have k1:∀ W,Below w.heap.size w W->(convert 50 9 (.slice aa A ca)).run prog W=.ok (.string sa) W:=fun W hW=>by
  rw[hsa]
  exact mc underlying50 underlying5 underlying9 (Ea.out.below hW)
 have k2:∀ W,Below w.heap.size w W->(convert 50 9 (.slice ab N cb)).run prog W=.ok (.string sb) W:=fun W hW=>by
  rw[hsb]
  exact mc underlying50 underlying5 underlying9 (HVB.out.below hW)
 have Od:=h_ k1
 have Oe:=h_ k2
 have cX:=h_ hra
 have ru:=h_ hrb
 have u6:=h_ hsa
 have RK:=h_ hsb
 have HZA:=h_ hza
 have Ok:=h_ hzb
 clear k1 k2 hra hrb hsa hsb hza hzb
 go_enter func7,ntmps7
 go_upto_region 2 with(first
  |(go_at_call 9;refine(uF.out).mono ?_;rintro e w1 ⟨rfl,hb⟩;have B1:=h_ hb;clear hb)
  |fail)
 cases ra with
 |false =>
  have k1:=Od.out _ B1.out
  go_wp2_with (first
   |(go_at_call 22;refine(FL.out _ B1.out).mono ?_;rintro e w2 ⟨rfl,hb⟩;have B2:=h_ (B1.out.trans (hb.mono B1.out.size));clear hb)
   |fail)
  go_ret
  exact⟨rfl,B2.out⟩
 |true =>
  have k1:=Od.out _ B1.out
  cases rb with
  |false =>
   go_wp2_with (first
    |(go_at_call 22;with_reducible first
     |(refine(FL.out _ B1.out).mono ?_;rintro e w2 ⟨rfl,hb⟩;have B2:=h_ (B1.out.trans (hb.mono B1.out.size));have k2:=Oe.out _ B2.out;clear hb)
     |(refine(IC.out _ B2.out).mono ?_;rintro e w3 ⟨rfl,hb⟩;have B3:=h_ (B2.out.trans (hb.mono B2.out.size));clear hb))
    |fail)
   go_ret
   exact⟨rfl,B3.out⟩
  |true =>
   go_upto_region 4 with(first
    |(go_at_call 22;with_reducible first
     |(refine(FL.out _ B1.out).mono ?_;rintro e w2 ⟨rfl,hb⟩;have B2:=h_ (B1.out.trans (hb.mono B1.out.size));have k2:=Oe.out _ B2.out;clear hb)
     |(refine(IC.out _ B2.out).mono ?_;rintro e w3 ⟨rfl,hb⟩;have B3:=h_ (B2.out.trans (hb.mono B2.out.size));clear hb))
    |fail)
   clear B1 B2 k1 k2 FL IC uF
   obtain⟨i8,q9,vJ,jK,ky⟩:=info_parts ly
   obtain⟨y1,wy1,y2,wy2,v6,w4,hr1,hr2,hr3,hsf,hbf⟩:=YX (P:=prog) w3 50 50 5 i8 underlying50 q9 vJ jK ky la [0] lb [0] rfl 1 rfl (by have:=HA.out;have:=HN.out;simp;omega) _ _ ((Ea.out.below B3.out).more B3.out.size) ((HVB.out.below B3.out).more B3.out.size)
   have HR1:=h_ hr1
   have HR2:=h_ hr2
   have HR3:=h_ hr3
   have B4:=h_ (B3.out.trans (hbf.mono B3.out.size))
   obtain⟨all,hall⟩:=ap (la++[0]++lb)
   rw[<-hall]at hsf
   obtain⟨M,hM⟩:=ap (all.length)
   have lI:=h_ hall
   have HM:=h_ hM
   have HMS:=h_ (show M=A+1+N by rw[hM,hall,HA.out,HN.out];simp only[af,ag,aQ,bk])
   have hM4:M<=401:=by have:=HMS.out;omega
   obtain⟨ac,cc,rfl⟩:∃ a c,v6=.slice a M c:=by
    obtain⟨a,c,h⟩:=dt hsf
    rw[Lib.byteCells_length,<-hM]at h
    exact⟨a,c,h⟩
   have HV6:=h_ hsf
   clear hsf hbf hr1 hr2 hr3 hall hM
   go_upto_region 5 with(first
    |(at_builtin;first
      |(refine fN rfl (.tmp 30) (.tmp 31) _ _ rfl _ _ _ _ rfl rfl HR1.out ?_)
      |(refine fN rfl (.tmp 32) (.tmp 33) _ _ rfl _ _ _ _ rfl rfl HR2.out ?_)
      |(refine fN rfl (.tmp 34) (.tmp 35) _ _ rfl _ _ _ _ rfl rfl HR3.out ?_))
    |fail)
   clear B3 HR1 HR2 HR3
   go_wp2_with fail
   go_loopw [7] (fun iv wr=>∃ j:Nat,j<=M∧iv=.int .i64 j∧Hid (∀i (hi:i<all.length),i<j->all[i]≠38∧(i≠la.length->all[i]≠0))∧wr=w4) (fun i _=>M-(intOf i).toNat)
   case atStart=>exact⟨0,aO _,rfl,h_ (fun i _ h=>absurd h (bE _)),rfl⟩
   case round =>
    obtain⟨j,hj,rfl,u4,hw⟩:=hrel
    subst wr
    by_cases hlt:j<M
    ·have hjl:j<all.length:=by have:=HM.out;omega
     obtain⟨b,o,hac,hbl,hcell⟩:=Ii HV6.out j hjl
     subst hac
     obtain⟨x,hx⟩:=ap (all[j])
     rw[<-hx]at hcell
     have HX:=h_ hx
     clear hbl hx
     by_cases GG:x=38
     ·rw[GG,show b2 38=38 from rfl]at hcell
      clear GG
      go_wp2_with fail
      go_ret
      exact⟨rfl,B4.out⟩
     have q38:(b2 x==38)=false:=by simp;exact fun e=>GG (dz e)
     have n38:¬ b2 x=38:=fun e=>GG (dz e)
     by_cases h0:x=0
     ·by_cases Zv:j=A
      ·have rr:=h_ (show ∀i (hi:i<all.length),i<j+1->all[i]≠38∧(i≠la.length->all[i]≠0)from fun i hi h=>by
        by_cases he:i=j
        ·subst he;exact⟨by rw[<-HX.out];exact GG,fun h=>absurd (Zv.trans HA.out) h⟩
        exact u4.out i hi (by omega))
       have qA:((j:Int)==(A:Int))=true:=by rw[Zv];simp
       rw[h0,show b2 0=0 from rfl]at hcell
       obtain rfl:A=j:=Zv.symm
       clear q38 n38 GG h0 qA Zv
       go_wp2_with fail
       go_roundw
       case rel=>exact⟨A+1,by omega,by go_num,rr,by trivial⟩
       case measure=>simp[intOf];omega
      have qA:((j:Int)==(A:Int))=false:=by simp;omega
      have nA:¬ (j:Int)=(A:Int):=by omega
      rw[h0,show b2 0=0 from rfl]at hcell
      clear q38 n38 GG h0 Zv
      go_wp2_with fail
      go_ret
      exact⟨rfl,B4.out⟩
     have q0:(b2 x==0)=false:=by simp;exact fun e=>h0 (dz e)
     have n0:¬ b2 x=0:=fun e=>h0 (dz e)
     have rr:=h_ (show ∀i (hi:i<all.length),i<j+1->all[i]≠38∧(i≠la.length->all[i]≠0)from fun i hi h=>by
      by_cases he:i=j
      ·subst he;exact⟨by rw[<-HX.out];exact GG,fun _=>by rw[<-HX.out];exact h0⟩
      exact u4.out i hi (by omega))
     obtain⟨c,hc⟩:=ap (b2 x)
     rw[<-hc]at hcell q38 n38 q0 n0
     clear hc h0 GG
     go_wp2_with fail
     go_roundw
     case rel=>exact⟨j+1,by omega,by go_num,rr,by trivial⟩
     case measure=>simp[intOf];omega
    obtain rfl:j=M:=by omega
    obtain⟨hpa,hpb⟩:=Dj lI.out (fun i hi=>u4.out i hi (by rw[HM.out];exact hi))
    have hr1:=of_decide_eq_true cX.out.symm
    have hr2:=of_decide_eq_true ru.out.symm
    obtain⟨r,hr⟩:=ap (bs (la++gQ++lb))
    have HG:=h_ (show(r.toList==(sa++⟨#[239,191,189]⟩++sb).toList)=true from by rw[hr,u6.out,RK.out];exact UD la gQ lb _ rfl)
    obtain⟨wz,hwz⟩:=ap (w4)
    rw[<-hwz]at B4 HV6 ⊢
    clear hwz
    have BZ:=B4
    have HVX:=h_ (fun W (hb:Below wz.heap.size wz W)=>(show Calls prog 17 #[.slice aa A ca] W fun e w'=>e=.returned (.string sa)∧Below W.heap.size W w' from by
     have hbw:=BZ.out.trans (hb.mono BZ.out.size)
     have h2:=jc la (.slice aa A ca) W ((Ea.out.below hbw).more hbw.size) (by have:=HA.out;omega) (HE.out.below hbw)
     rw[wR hpa hr1,show S la=.string sa by rw[u6.out]]at h2
     exact h2))
    have HVY:=h_ (fun W (hb:Below wz.heap.size wz W)=>(show Calls prog 17 #[.slice ac j cc] W fun e w'=>e=.returned (.string r)∧Below W.heap.size W w' from by
     have hbw:=BZ.out.trans (hb.mono BZ.out.size)
     have h2:=jc all (.slice ac j cc) W ((HV6.out.below hb).more hb.size) (by have:=HM.out;have:=HMS.out;omega) (HE.out.below hbw)
     rw[lI.out,aX,List.singleton_append,val_zero hpa hr1 hpb hr2,show S (la++gQ++lb)=.string r by rw[hr]]at h2
     exact h2))
    have k1:∀ W,Below wz.heap.size wz W->(convert 50 9 (.slice aa A ca)).run prog W=.ok (.string sa) W:=fun W hW=>Od.out W (BZ.out.trans (hW.mono BZ.out.size))
    have k2:∀ W,Below wz.heap.size wz W->(convert 50 9 (.slice ab N cb)).run prog W=.ok (.string sb) W:=fun W hW=>Oe.out W (BZ.out.trans (hW.mono BZ.out.size))
    have ka:¬ 9223372036854775807<sa.size+3:=by have:=HZA.out;omega
    have kb:¬ 9223372036854775807<sa.size+3+sb.size:=by have:=HZA.out;have:=Ok.out;omega
    have g1:=HG.out
    clear hpa hpb hr1 hr2 hr Od Oe u4 HV6 Ea HVB cX ru u6 RK
    go_upto_region 10 with fail
    refine wp_region_held_drew (S:=fun W=>Below wz.heap.size wz W) (by kernel_rfl) (by first|exact D2.out|exact D1.out|exact aJ (aG _)|exact hHeld) (fun hHeld=>?_)
    refine tq 0 rfl ?_ (fun wS hSw=>?_) ?_
    rotate_left
    ·(try dsimp only at hSw);go_simp;first|done|with_reducible rfl
    try simp only[Act.put,aK,aL,aM]
    refine tq 1 rfl ?_ (fun wS hSw=>?_) ?_
    rotate_left
    ·(try dsimp only at hSw);go_simp;first|done|with_reducible rfl
    try simp only[Act.put,aK,aL,aM]
    refine tq 2 rfl ?_ (fun wS hSw=>?_) ?_
    rotate_left
    ·(try dsimp only at hSw);go_simp;first|done|with_reducible rfl
    try simp only[Act.put,aK,aL,aM]
    refine tq 4 rfl ?_ (fun wS hSw=>?_) ?_
    rotate_left
    ·(try dsimp only at hSw);go_simp;first|done|with_reducible rfl
    try simp only[Act.put,aK,aL,aM]
    refine tq 5 rfl ?_ (fun wS hSw=>?_) ?_
    rotate_left
    ·(try dsimp only at hSw);go_simp;first|done|with_reducible rfl
    try simp only[Act.put,aK,aL,aM]
    refine rn 3 (by kernel_rfl) rfl (by rfl) (fun K hK=>?_)
    go_simp
    refine(HVX.out _ hHeld).mono ?_
    rintro e w5 ⟨rfl,hb⟩
    have D1:=h_ (hHeld.trans (hb.mono hHeld.size))
    clear hb
    refine hK.out _ _ ?_ (fun hHeld=>?_)
    ·first|exact D2.out|exact D1.out|exact aJ (aG _)|exact hHeld
    clear hK K
    try simp only[Act.put,aK,aL,aM]
    refine tq 6 rfl ?_ (fun wS hSw=>?_) ?_
    rotate_left
    ·(try dsimp only at hSw);go_simp;first|done|with_reducible rfl
    try simp only[Act.put,aK,aL,aM]
    refine tq 7 rfl ?_ (fun wS hSw=>?_) ?_
    rotate_left
    ·(try dsimp only at hSw);go_simp;first|done|with_reducible rfl
    try simp only[Act.put,aK,aL,aM]
    refine tq 8 rfl ?_ (fun wS hSw=>?_) ?_
    rotate_left
    ·(try dsimp only at hSw);go_simp;first|done|with_reducible rfl
    try simp only[Act.put,aK,aL,aM]
    refine tq 9 rfl ?_ (fun wS hSw=>?_) ?_
    rotate_left
    ·(try dsimp only at hSw);go_simp;first|done|with_reducible rfl
    try simp only[Act.put,aK,aL,aM]
    refine tq 11 rfl ?_ (fun wS hSw=>?_) ?_
    rotate_left
    ·(try dsimp only at hSw);go_simp;first|done|with_reducible rfl
    try simp only[Act.put,aK,aL,aM]
    refine tq 12 rfl ?_ (fun wS hSw=>?_) ?_
    rotate_left
    ·(try dsimp only at hSw);go_simp;first|done|with_reducible rfl
    try simp only[Act.put,aK,aL,aM]
    refine tq 13 rfl ?_ (fun wS hSw=>?_) ?_
    rotate_left
    ·(try dsimp only at hSw);go_simp;first|done|with_reducible rfl
    try simp only[Act.put,aK,aL,aM]
    refine tq 14 rfl ?_ (fun wS hSw=>?_) ?_
    rotate_left
    ·(try dsimp only at hSw);go_simp;first|done|with_reducible rfl
    try simp only[Act.put,aK,aL,aM]
    refine tq 15 rfl ?_ (fun wS hSw=>?_) ?_
    rotate_left
    ·(try dsimp only at hSw);go_simp;first|done|with_reducible rfl
    try simp only[Act.put,aK,aL,aM]
    refine tq 16 rfl ?_ (fun wS hSw=>?_) ?_
    rotate_left
    ·(try dsimp only at hSw);go_simp;first|done|with_reducible rfl
    try simp only[Act.put,aK,aL,aM]
    refine rn 10 (by kernel_rfl) rfl (by rfl) (fun K hK=>?_)
    go_simp
    refine(HVY.out _ hHeld).mono ?_
    rintro e w6 ⟨rfl,hb⟩
    have D2:=h_ (hHeld.trans (hb.mono hHeld.size))
    clear hb
    refine hK.out _ _ ?_ (fun hHeld=>?_)
    ·first|exact D2.out|exact D1.out|exact aJ (aG _)|exact hHeld
    clear hK K
    try simp only[Act.put,aK,aL,aM]
    refine tq 17 rfl ?_ (fun wS hSw=>?_) ?_
    rotate_left
    ·(try dsimp only at hSw);go_simp;first|done|with_reducible rfl
    try simp only[Act.put,aK,aL,aM]
    refine tq 18 rfl ?_ (fun wS hSw=>?_) ?_
    rotate_left
    ·(try dsimp only at hSw);go_simp;first|done|with_reducible rfl
    try simp only[Act.put,aK,aL,aM]
    refine tq 19 rfl ?_ (fun wS hSw=>?_) ?_
    rotate_left
    ·(try dsimp only at hSw);go_simp;first|done|with_reducible rfl
    try simp only[Act.put,aK,aL,aM]
    refine wpAnyH_done (by kernel_rfl) ?_ _
    go_wp2_with fail
    go_ret
    exact⟨rfl,BZ.out.trans (D2.out.mono BZ.out.size)⟩
end Go.Proofs.YtmndlfglgcioeaaGreatDoor
