/- Joined texts. -/
import Derived.Test.YtmndlfglgcioeaaGreatDoorEGWlkH
import Derived.Test.YtmndlfglgcioeaaGreatDoorEGSrcB
set_option maxHeartbeats 40000000
namespace Go.Proofs.YtmndlfglgcioeaaGreatDoor
open Tryz
open Go.RowKit
set_option maxRecDepth 10000
abbrev Fq:Ending:=.panicked [{v:=.iface 155 (.agg #[]),recovered:=false}]
def Fx(l:Bytes):Prop:=∀ s u p n q,KK l=some (s,u,p)->Oq s=some (n,q)->Short n
theorem Ls{l:Bytes}(h:l.length<=1048576):Fx l:=fun s u p n q h1 h2=>ER (by have:=Ip h1;have:=(Hl h2).1;omega)
def ut(u:Url)(a:mq):Url:={u with usr:=a.user,fp:=a.pass,host:=a.host,bq:=a.bq,port:=a.port}
theorem ox(sp:Bool)(s:Bytes):(dO sp s).1.length<=s.length∧(dO sp s).2.length<=s.length:=by
 unfold dO;have h:=congrArg List.length (eT (p:=fun c=>!ks sp c) (l:=s));rw[ae]at h;dsimp only;omega
theorem Vn(u:Url)(s:Bytes)(hp:u.path=[]):kf u s=match kg u.aH (dO (eK u.aH) s).1 with
  |none=>none
  |some a=>some {ut u a with path:=if eK u.aH=true∨(dO (eK u.aH) s).2 ≠ []then gE u.aH (dO (eK u.aH) s).2 else []}:=by
 unfold kf;rw[hp];rfl
def YZ(w0:World)(b:Nat)(w:World):Option Url->Ending->World->Prop
 |none,e,w'=>e=Fq∧Below w0.heap.size w0 w'∧Tn b w w'
 |some u,e,w'=>e=.returned (.tuple #[])∧(∃pv,OB w0 b 30 (ai pv u) w'∧w'.ownsRow w.heap.size 9 1 pv u.path.length (Strs u.path))∧Tn b w w'
theorem bh{w:World}{base base' e n:Nat}{v:Value}{xs:List Value}(h:w.ownsRow base e 1 v n xs)(hb:base'<=base):w.ownsRow base' e 1 v n xs:=by
 refine⟨h.1,?_⟩;rcases h.2 with h0|⟨g,cap,cur,e1,hg,hh,hr⟩
 ·exact .inl h0
 exact .inr ⟨g,cap,cur,e1,ap hb hg,hh,hr⟩
theorem fE{w:World}{base e:Nat}{v:Value}{l:List Bytes}(h:w.ownsRow base e 1 v (Strs l).length (Strs l)):w.ownsRow base e 1 v l.length (Strs l):=by
 rw[am]at h;exact h
theorem Kq{w:World}{base e:Nat}:w.ownsRow base e 1 aR 0 []:=⟨rfl,.inl ⟨rfl,rfl⟩⟩
theorem uT(w0:World)(b:Nat)(u:Url)(s:Bytes)(w:World)(i:OB w0 b 30 (ai aR u) w)(h8:u.host.six.length=8)(hp:u.path=[])(hs:s.length<=307200000)(hA:Fx (dO (eK u.aH) s).1)(hE:Env w) :
  Calls prog 99 #[.pointer (some ⟨b,0,none⟩),.string (bs s)] w (YZ w0 b w (kf u s)):=by
 obtain⟨R,hR⟩:=az (kf u s);rw[<-hR];rw[Vn u s hp]at hR;have hsp:=fun W=>gZ u.aH W;have mY:=fun W=>CA s (eK u.aH) W (by omega);have hcl:=ox (eK u.aH) s;have hap:=fun(W:World) (hW:Below w.heap.size w W)=>FL u.aH (dO (eK u.aH) s).1 W (by omega) hA (hE.below hW);have hpo:=fun W=>xj u.aH (dO (eK u.aH) s).2 W (by omega);have Up:=@ath_six u.aH (dO (eK u.aH) s).1;generalize eK u.aH=sp at *;generalize dO sp s=C at *;obtain⟨c1,c2⟩:=C;simp only at hR mY hcl hap hpo Up;have UU:=h_ (uF aR u h8);have H8:=h_ h8;have II:=h_ i;obtain⟨sc,hsc⟩:=az (bs u.aH);obtain⟨t,ht⟩:=az (bs s);obtain⟨k1,hk1⟩:=az (bs c1);obtain⟨k2,hk2⟩:=az (bs c2);rw[<-hsc]at hsp hap hpo;rw[<-ht]at mY ⊢;rw[<-hk1]at hap;rw[<-hk2]at hpo;have mt:=h_ (show ∀W,bN prog 133 #[.string t,.bool sp] W (.tuple #[.string k1,.string k2])from by rw[hk1,hk2];exact mY);have j0:=h_ hsp;have FE:=h_ hpo
 have hc0:∀ {W:World} {cs:Array Value} {v:Value} {x:Url},OB w0 b 30 (ai v x) W->x.host.six.length=8->x.aH=u.aH->W.cell? ⟨b,0,none⟩=some (.string sc):=fun {W cs v x} h1 h2 h3=>by
  rw[h1.aF (uF v x h2).aH,h3,hsc]
 have V8:k2.toList=[] ↔ c2=[]:=by rw[hk2,ay]
 have FB:=h_ (fun(W:World) (v:Value) (x:Url) h1 h2 h3=>@hc0 W #[] v x h1 h2 h3);have HKE:=h_ V8;have HR:=h_ hR;have hbw:=i.lt;clear hc0 V8 hR mY hsp hpo hsc ht hk1 hk2 hcl hp hs hA h8 i;cases hAA:kg u.aH c1 with
 |none =>
  rw[hAA]at hap;have HAP:=h_ (show ∀W,Below w.heap.size w W->bN prog 134 #[.string sc,.string k1] W (.tuple #[.agg (bW A0),.bool false])from hap);have kC:=h_ (show R=none by rw[HR.out,hAA]);clear hap hAA Up hE FE HKE;have c0:=FB.out _ _ _ II.out H8.out rfl;go_enter func99,ntmps99
  go_upto_region 2 with(first
   |(go_at_call 96;refine(j0.out _).mono ?_;rintro e w2 ⟨rfl,hw⟩;subst hw)
   |(go_at_call 133;refine(mt.out _).mono ?_;rintro e w3 ⟨rfl,hb⟩;have HB3:=h_ hb;have c3:=FB.out _ _ _ (II.out.below hb) H8.out rfl;clear hb)
   |fail)
  go_upto_region 3 with(first
   |(go_at_call 134;refine(HAP.out _ HB3.out).mono ?_;rintro e w4 ⟨rfl,hb⟩;have Ld:=h_ (iK HB3.out hb);clear hb)
   |(refine aS rfl 151 rfl _ _ (allA _) ?_)
   |(refine Tq rfl (.tmp 7) (.tmp 27) rfl A0 rfl rfl rfl rfl ?_;intro w5 hh hb;have gH:=h_ (iK Ld.out hb);clear hh hb)
   |fail)
  go_wp2_with fail
  refine⟨rfl,?_⟩;rw[kC.out];exact⟨rfl,(II.out.below gH.out).bL,Tn.of_below gH.out⟩
 |some A =>
  rw[hAA]at hap Up;have A8:=h_ (show A.host.six.length=8 from Up);have AC:=h_ (Lu A A8.out);have HI:=h_ (show(prog.info? 27).map (·.size)=some (aZ A.host).length by rw[jQ];simp[aZ,A8.out]);have HAP:=h_ (show ∀W,Below w.heap.size w W->bN prog 134 #[.string sc,.string k1] W (.tuple #[.agg (bW A),.bool true])from hap);have tE:=h_ (show R=some {ut u A with path:=if sp=true∨c2 ≠ []then gE u.aH c2 else []} by rw[HR.out,hAA]);obtain⟨PP,Ml⟩:=az (gE u.aH c2);rw[<-Ml]at tE FE;clear hap hAA Up hE HR Ml;have c0:=FB.out _ _ _ II.out H8.out rfl;go_enter func99,ntmps99
  go_upto_region 2 with(first
   |(go_at_call 96;refine(j0.out _).mono ?_;rintro e w2 ⟨rfl,hw⟩;subst hw)
   |(go_at_call 133;refine(mt.out _).mono ?_;rintro e w3 ⟨rfl,hb⟩;have HB3:=h_ hb;have c3:=FB.out _ _ _ (II.out.below hb) H8.out rfl;clear hb)
   |fail)
  go_upto_region 3 with(first
   |(go_at_call 134;refine(HAP.out _ HB3.out).mono ?_;rintro e w4 ⟨rfl,hb⟩;have Ld:=h_ (iK HB3.out hb);clear hb)
   |(refine aS rfl 151 rfl _ _ (allA _) ?_)
   |(refine Tq rfl (.tmp 7) (.tmp 27) rfl A A8.out rfl rfl rfl ?_;intro w5 hh hb;have K5:=h_ hh;have gH:=h_ (iK Ld.out hb);have HBT:=h_ (show b<w4.heap.size from aQ hbw Ld.out.size);clear hh hb)
   |fail)
  obtain⟨bt,hbt⟩:=az (w4.heap.size);rw[<-hbt]at K5 HBT ⊢;have hne:bt≠b:=by have:=HBT.out;omega
  have I3:=h_ (II.out.below gH.out);have T3:=h_ (Tn.of_below (b:=b) gH.out);clear hbt c0 c3
  go_upto_region 5 with fail
  have I4:=h_ (I3.out.below (bH (bz _)));have C4:=h_ (K5.out.keep (bH (bz _)));have C3:=K5;have T4:=h_ (T3.out.below (bH (bz _)));refine wp_region_held_drew (S:=fun W=>CB W bt 151 (bW A)) (by kernel_rfl) (by first|exact C3.out.keep (bH (bz _))|exact C9.out|exact C8.out|exact C7.out|exact C6.out|exact C5.out) (fun hHeld=>?_);refine tq 0 rfl ?_ (fun wS hSw=>?_) ?_;rotate_left
  ·(try dsimp only at hSw);go_simp;first|done|with_reducible rfl
  try simp only[Act.put,cE,cF,cG]
  refine tq 1 rfl ?_ (fun wS hSw=>?_) ?_;rotate_left
  ·(try dsimp only at hSw);go_simp;first|done|with_reducible rfl
  try simp only[Act.put,cE,cF,cG]
  refine tq 2 rfl ?_ (fun wS hSw=>?_) ?_;rotate_left
  ·(try dsimp only at hSw);go_simp;first|done|with_reducible rfl
  try simp only[Act.put,cE,cF,cG]
  refine tq 3 rfl ?_ (fun wS hSw=>?_) ?_;rotate_left
  ·(try dsimp only at hSw);go_simp;first|done|with_reducible rfl
  try simp only[Act.put,cE,cF,cG]
  refine tq 4 rfl ?_ (fun wS hSw=>?_) ?_;rotate_left
  ·(try dsimp only at hSw);go_simp;first|done|with_reducible rfl
  try simp only[Act.put,cE,cF,cG]
  refine tq 5 rfl ?_ (fun wS hSw=>?_) ?_;rotate_left
  ·(try dsimp only at hSw);go_simp;first|done|with_reducible rfl
  try simp only[Act.put,cE,cF,cG]
  refine tq 6 rfl ?_ (fun wS hSw=>?_) ?_;rotate_left
  ·(try dsimp only at hSw)
   refine bK 9 (.tmp 38) ?_ bt 0 (S A.user) _ underlying9 rfl ?_ ?_
   ·rfl
   ·rfl
   exact hSw.aF rfl
  try simp only[Act.put,cE,cF,cG]
  refine tq 7 rfl ?_ (fun wS hSw=>?_) ?_;rotate_left
  ·(try dsimp only at hSw);go_simp;first|done|with_reducible rfl
  try simp only[Act.put,cE,cF,cG]
  refine tq 8 rfl ?_ (fun wS hSw=>?_) ?_;rotate_left
  ·(try dsimp only at hSw)
   refine bK 9 (.tmp 40) ?_ bt 1 (S A.pass) _ underlying9 rfl ?_ ?_
   ·rfl
   ·rfl
   exact hSw.aF rfl
  try simp only[Act.put,cE,cF,cG]
  refine tq 9 rfl ?_ (fun wS hSw=>?_) ?_;rotate_left
  ·(try dsimp only at hSw);go_simp;first|done|with_reducible rfl
  try simp only[Act.put,cE,cF,cG]
  refine tq 10 rfl ?_ (fun wS hSw=>?_) ?_;rotate_left
  ·(try dsimp only at hSw)
   refine iX 27 (.tmp 42) ?_ bt 2 (aZ A.host) _ underlying27 rfl HI.out ?_ ?_
   ·rfl
   ·rfl
   exact hSw.range (Vp A)
  try simp only[Act.put,cE,cF,cG]
  refine tq 11 rfl ?_ (fun wS hSw=>?_) ?_;rotate_left
  ·(try dsimp only at hSw);go_simp;first|done|with_reducible rfl
  try simp only[Act.put,cE,cF,cG]
  refine tq 12 rfl ?_ (fun wS hSw=>?_) ?_;rotate_left
  ·(try dsimp only at hSw)
   refine bK 4 (.tmp 44) ?_ bt 13 (.bool A.bq) _ underlying4 rfl ?_ ?_
   ·rfl
   ·rfl
   exact hSw.aF AC.out.2.2.1
  try simp only[Act.put,cE,cF,cG]
  refine tq 13 rfl ?_ (fun wS hSw=>?_) ?_;rotate_left
  ·(try dsimp only at hSw);go_simp;first|done|with_reducible rfl
  try simp only[Act.put,cE,cF,cG]
  refine tq 14 rfl ?_ (fun wS hSw=>?_) ?_;rotate_left
  ·(try dsimp only at hSw)
   refine bK 3 (.tmp 46) ?_ bt 14 (.int .i64 A.port) _ underlying3 rfl ?_ ?_
   ·rfl
   ·rfl
   exact hSw.aF AC.out.2.2.2.1
  try simp only[Act.put,cE,cF,cG]
  refine tq 15 rfl ?_ (fun wS hSw=>?_) ?_;rotate_left
  ·(try dsimp only at hSw);go_simp;first|done|with_reducible rfl
  try simp only[Act.put,cE,cF,cG]
  refine tq 16 rfl ?_ (fun wS hSw=>?_) ?_;rotate_left
  ·(try dsimp only at hSw);go_simp;first|done|with_reducible rfl
  try simp only[Act.put,cE,cF,cG]
  refine rn 17 (by kernel_rfl) rfl (by rfl) (fun K hK=>?_);refine gL 9 (.tmp 49) (.tmp 39) rfl w0 b 30 (ai aR u) I4.out 1 (S A.user) rfl rfl (gy H8.out (by decide)) bU.1 rfl (ai aR {u with usr:=A.user}) ((gw aR u H8.out).usr _) ?_;intro x5 i1 t1;have I5:=h_ i1;have C5:=h_ (t1.cb C4.out hne);have T5:=h_ (T4.out.trans t1);clear i1 t1;refine hK.out _ _ ?_ (fun hHeld=>?_)
  ·first|exact C3.out.keep (bH (bz _))|exact C9.out|exact C8.out|exact C7.out|exact C6.out|exact C5.out
  clear hK K
  try simp only[Act.put]
  refine tq 18 rfl ?_ (fun wS hSw=>?_) ?_;rotate_left
  ·(try dsimp only at hSw);go_simp;first|done|with_reducible rfl
  try simp only[Act.put,cE,cF,cG]
  refine tq 19 rfl ?_ (fun wS hSw=>?_) ?_;rotate_left
  ·(try dsimp only at hSw);go_simp;first|done|with_reducible rfl
  try simp only[Act.put,cE,cF,cG]
  refine rn 20 (by kernel_rfl) rfl (by rfl) (fun K hK=>?_);refine gL 9 (.tmp 51) (.tmp 41) rfl w0 b 30 (ai aR {u with usr:=A.user}) I5.out 2 (S A.pass) rfl rfl (gy H8.out (by decide)) bU.1 rfl (ai aR {u with usr:=A.user,fp:=A.pass}) ((gw aR {u with usr:=A.user} H8.out).fp _) ?_;intro x6 i1 t1;have I6:=h_ i1;have C6:=h_ (t1.cb C5.out hne);have T6:=h_ (T5.out.trans t1);clear i1 t1;refine hK.out _ _ ?_ (fun hHeld=>?_)
  ·first|exact C3.out.keep (bH (bz _))|exact C9.out|exact C8.out|exact C7.out|exact C6.out|exact C5.out
  clear hK K
  try simp only[Act.put]
  refine tq 21 rfl ?_ (fun wS hSw=>?_) ?_;rotate_left
  ·(try dsimp only at hSw);go_simp;first|done|with_reducible rfl
  try simp only[Act.put,cE,cF,cG]
  refine tq 22 rfl ?_ (fun wS hSw=>?_) ?_;rotate_left
  ·(try dsimp only at hSw);go_simp;first|done|with_reducible rfl
  try simp only[Act.put,cE,cF,cG]
  refine rn 23 (by kernel_rfl) rfl (by rfl) (fun K hK=>?_);refine lW 27 (.tmp 53) (.tmp 43) rfl w0 b 30 (ai aR {u with usr:=A.user,fp:=A.pass}) I6.out 3 (aZ A.host) rfl rfl (Aa H8.out A8.out) HI.out kM (ai aR {u with usr:=A.user,fp:=A.pass,host:=A.host}) (tC aR {u with usr:=A.user,fp:=A.pass} A.host A8.out H8.out) ?_;intro x7 i1 t1;have I7:=h_ i1;have C7:=h_ (t1.cb C6.out hne);have T7:=h_ (T6.out.trans t1);clear i1 t1;refine hK.out _ _ ?_ (fun hHeld=>?_)
  ·first|exact C3.out.keep (bH (bz _))|exact C9.out|exact C8.out|exact C7.out|exact C6.out|exact C5.out
  clear hK K
  try simp only[Act.put]
  refine tq 24 rfl ?_ (fun wS hSw=>?_) ?_;rotate_left
  ·(try dsimp only at hSw);go_simp;first|done|with_reducible rfl
  try simp only[Act.put,cE,cF,cG]
  refine tq 25 rfl ?_ (fun wS hSw=>?_) ?_;rotate_left
  ·(try dsimp only at hSw);go_simp;first|done|with_reducible rfl
  try simp only[Act.put,cE,cF,cG]
  refine rn 26 (by kernel_rfl) rfl (by rfl) (fun K hK=>?_);refine gL 4 (.tmp 55) (.tmp 45) rfl w0 b 30 (ai aR {u with usr:=A.user,fp:=A.pass,host:=A.host}) I7.out 14 (.bool A.bq) rfl rfl (gy A8.out (by decide)) bU.2.2 rfl (ai aR {u with usr:=A.user,fp:=A.pass,host:=A.host,bq:=A.bq}) ((gw aR {u with usr:=A.user,fp:=A.pass,host:=A.host} A8.out).bq _) ?_;intro x8 i1 t1;have I8:=h_ i1;have C8:=h_ (t1.cb C7.out hne);have T8:=h_ (T7.out.trans t1);clear i1 t1;refine hK.out _ _ ?_ (fun hHeld=>?_)
  ·first|exact C3.out.keep (bH (bz _))|exact C9.out|exact C8.out|exact C7.out|exact C6.out|exact C5.out
  clear hK K
  try simp only[Act.put]
  refine tq 27 rfl ?_ (fun wS hSw=>?_) ?_;rotate_left
  ·(try dsimp only at hSw);go_simp;first|done|with_reducible rfl
  try simp only[Act.put,cE,cF,cG]
  refine tq 28 rfl ?_ (fun wS hSw=>?_) ?_;rotate_left
  ·(try dsimp only at hSw);go_simp;first|done|with_reducible rfl
  try simp only[Act.put,cE,cF,cG]
  refine rn 29 (by kernel_rfl) rfl (by rfl) (fun K hK=>?_);refine gL 3 (.tmp 57) (.tmp 47) rfl w0 b 30 (ai aR {u with usr:=A.user,fp:=A.pass,host:=A.host,bq:=A.bq}) I8.out 15 (.int .i64 A.port) rfl rfl (gy A8.out (by decide)) bU.2.1 rfl (ai aR (ut u A)) ((gw aR {u with usr:=A.user,fp:=A.pass,host:=A.host,bq:=A.bq} A8.out).port _) ?_;intro x9 i1 t1;have I9:=h_ i1;have C9:=h_ (t1.cb C8.out hne);have T9:=h_ (T8.out.trans t1);clear i1 t1;refine hK.out _ _ ?_ (fun hHeld=>?_)
  ·first|exact C3.out.keep (bH (bz _))|exact C9.out|exact C8.out|exact C7.out|exact C6.out|exact C5.out
  clear hK K
  try simp only[Act.put]
  refine wpAnyH_done (by kernel_rfl) ?_ _;have hc1:(sp=true)∨(sp=false∧¬ k2.toList=[])∨(sp=false∧k2.toList=[]):=by cases sp <;>by_cases h:k2.toList=[] <;>simp[h]
  rcases hc1 with rfl|⟨rfl,he⟩|⟨rfl,he⟩
  ·have HU:=h_ (show R=some {ut u A with path:=PP} by rw[tE.out];simp)
   have c9:=FB.out _ _ _ I9.out A8.out rfl
   go_wp2_with (first
    |(go_at_call 135;refine(FE.out _).mono ?_;rintro e BX ⟨v10,rfl,ho,hb⟩;have R10:=h_ ho;have nW:=h_ (I9.out.below hb);have ZA:=h_ (T9.out.below hb);have Y3:=h_ (show b<x9.heap.size from I9.out.lt);clear ho hb)
    |(refine ex rfl 28 (.tmp 71) (.tmp 69) rfl w0 b 30 (ai aR (ut u A)) nW.out 18 v10 rfl rfl (gy A8.out (by decide)) dP (bm R10.out) (ai v10 {ut u A with path:=PP}) ((gw aR (ut u A) A8.out).path _ _) ?_;intro Uu i1 t1;have yG:=h_ i1;have T11:=h_ (ZA.out.trans t1);have R11:=h_ (t1.row R10.out Y3.out);clear i1 t1)
    |fail)
   go_end0
   rw[HU.out];exact⟨rfl,⟨v10,yG.out,bh (fE R11.out) T9.out.s⟩,T11.out⟩
  ·have HU:=h_ (show R=some {ut u A with path:=PP} by rw[tE.out,if_pos (.inr fun h=>he (HKE.out.2 h))])
   have he1:k2.toList.isEmpty=false:=by simpa using he
   have c9:=FB.out _ _ _ I9.out A8.out rfl
   go_wp2_with (first
    |(go_at_call 135;refine(FE.out _).mono ?_;rintro e BX ⟨v10,rfl,ho,hb⟩;have R10:=h_ ho;have nW:=h_ (I9.out.below hb);have ZA:=h_ (T9.out.below hb);have Y3:=h_ (show b<x9.heap.size from I9.out.lt);clear ho hb)
    |(refine ex rfl 28 (.tmp 71) (.tmp 69) rfl w0 b 30 (ai aR (ut u A)) nW.out 18 v10 rfl rfl (gy A8.out (by decide)) dP (bm R10.out) (ai v10 {ut u A with path:=PP}) ((gw aR (ut u A) A8.out).path _ _) ?_;intro Uu i1 t1;have yG:=h_ i1;have T11:=h_ (ZA.out.trans t1);have R11:=h_ (t1.row R10.out Y3.out);clear i1 t1)
    |fail)
   go_end0
   rw[HU.out];exact⟨rfl,⟨v10,yG.out,bh (fE R11.out) T9.out.s⟩,T11.out⟩
  have HU:=h_ (show R=some {ut u A with path:=[]} by rw[tE.out,if_neg (by rintro(h|h);exact(by simp at h);exact h (HKE.out.1 he))]);have he1:k2.toList.isEmpty=true:=by rw[he];rfl
  go_wp2_with fail
  go_end0
  rw[HU.out];exact⟨rfl,⟨aR,I9.out,Kq⟩,T9.out⟩

theorem ez{f:Func}{k:Nat}(hf:f.results=#[.cell k 30]){tmps:Array Value}{w0 w2:World}{b:Nat}{pv:Value}{u:Url}{Post:Ending->World->Prop}(h8:u.host.six.length=8)(hk:tmps.getD k undef=.pointer (some ⟨b,0,none⟩))
  (i:OB w0 b 30 (ai pv u) w2) (hP:Post (.returned (.agg (ai pv u))) w2) :
  bodyPost prog f Post Exit.ret {tmps:=tmps,defers:=[]} w2:=by
 have h2':tmps[k]?.getD undef=.pointer (some ⟨b,0,none⟩):=by simpa using hk
 have hl:=i.load (P:=prog) 30 _ underlying30 rfl (by rw[jX h8];exact iI);refine bodyPost_ret (v:=.agg (ai pv u)) ?_ rfl hP;simp[results,hf,asAddr,h2',hl]
theorem sf{pv Ci:Value}{u u2:Url}(h:u.host.six.length=8)(h2:u2.host.six.length=8):uz (ai pv u) 0 (aV Ci u2)=ai Ci u2:=nI _ _ (by rw[pm h,pm h2])
theorem a3N(sc:Bytes)(hq:Bool)(q:Bytes)(hf:Bool)(f:Bytes):∀ w,(Instr.build 30 #[(0,S sc),(9,.bool hq),(10,S q),(11,.bool hf),(12,S f)]).run prog w=.ok (.agg (ai aR {U0 with aH:=sc,bS:=hq,q:=q,bZ:=hf,f:=f})) w:=fun w=>by kernel_rfl
theorem vu{o:Oper}{a:Act}{w:World}(x1 x2 x3 x4 x5:Operand)(ho:o.op=.build 30 #[(0,x1),(9,x2),(10,x3),(11,x4),(12,x5)])(sc:Bytes)(hq:Bool)(q:Bytes)(hf:Bool)(f:Bytes)
  (h1:a.eval x1=S sc) (h2:a.eval x2=.bool hq) (h3:a.eval x3=S q) (h4:a.eval x4=.bool hf) (h5:a.eval x5=S f):(execOp a.eval o).run prog w=.ok (.value (.agg (ai aR {U0 with aH:=sc,bS:=hq,q:=q,bZ:=hf,f:=f}))) w:=by
 have e:=a3N sc hq q hf f w;unfold execOp;simp only[ho,Sem.run_bind,Sem.run_pure,Result.andThen_ok,nQ,dw,yl,h1,h2,h3,h4,h5,e]
theorem pR(aH:Bytes)(p:lH)(w:World)(hq:p.q.length<=1024000000)(hf:p.f.length<=1024000000):bN prog 98 #[.string (bs aH),.agg (bg p)] w (.agg (ai aR (dj aH p))):=by
 have j0:=h_ (fun W=>gZ aH W);have HF:=h_ (fun W=>fz 1 p.f W hf);have H2:=h_ (fun W=>fz 2 p.q W hq);have H3:=h_ (fun W=>fz 3 p.q W hq);obtain⟨R,hR⟩:=az (dj aH p);rw[<-hR];unfold dj at hR;have hc:eK aH=true∨eK aH=false:=by cases eK aH <;>simp
 generalize eK aH=sp at *;have HR:=h_ hR;clear hR hq hf;go_enter func98,ntmps98
 go_upto_region 1 with(first
  |(refine aS rfl 30 rfl _ _ (ef _) ?_)
  |fail)
 have hx:=CB.new w 68 (bg p);have hb:=(Below.refl w.heap.size w).alloc (af _) (.cells (bg p) 68);obtain⟨w2,hw2⟩:=az (w.alloc (.cells (bg p) 68));have hz:w2.heap.size=w.heap.size+1:=by rw[hw2];simp
 rw[<-hw2]at hx hb ⊢;have hu:=OB.fresh w2 30 (ai aR U0);have hb2:=(Below.refl w2.heap.size w2).alloc (af _) (.cells (ai aR U0) 30);obtain⟨w3,hw3⟩:=az (w2.alloc (.cells (ai aR U0) 30));rw[<-hw3]at hu hb2 ⊢;rw[hz]at hu
 try rw[hz]
 have hx3:=hx.keep hb2;have hu3:OB w (w.heap.size+1) 30 (ai aR U0) w3:=⟨hu.a,by omega,iK hb hb2⟩;obtain⟨bx,hbx⟩:=az (w.heap.size);obtain⟨bu,hbu⟩:=az (w.heap.size+1);rw[<-hbu]at hu3 ⊢;rw[<-hbx]at hx3 ⊢;have hne:bx≠bu:=by omega
 have C3:=h_ hx3;have I3:=h_ hu3;clear hx hb hw2 hz hu hb2 hw3 hx3 hu3 hbx hbu;rcases hc with rfl|rfl
 ·go_upto_region 4 with(first
   |(go_at_call 96;refine(j0.out _).mono ?_;rintro e w4 ⟨rfl,hw⟩;subst hw)
   |fail)
  have HRR:=h_ (show R={U0 with aH:=aH,bS:=p.bS,q:=dq 3 p.q,bZ:=p.bZ,f:=dq 1 p.f} by rw[HR.out];rfl);have HQ:=H3;refine wp_region_held_drew (S:=fun W=>CB W bx 68 (bg p)) (by kernel_rfl) (by first|exact C3.out.keep (bH (bz _))|exact C6.out|exact C5.out|exact C4.out) (fun hHeld=>?_);refine tq 0 rfl ?_ (fun wS hSw=>?_) ?_;rotate_left
  ·(try dsimp only at hSw);go_simp;first|done|with_reducible rfl
  try simp only[Act.put,cE,cF,cG]
  refine tq 1 rfl ?_ (fun wS hSw=>?_) ?_;rotate_left
  ·(try dsimp only at hSw);go_simp;first|done|with_reducible rfl
  try simp only[Act.put,cE,cF,cG]
  refine tq 2 rfl ?_ (fun wS hSw=>?_) ?_;rotate_left
  ·(try dsimp only at hSw)
   refine bK 4 (.tmp 9) ?_ bx 3 (.bool p.bS) _ underlying4 rfl ?_ ?_
   ·rfl
   ·rfl
   exact hSw.aF rfl
  try simp only[Act.put,cE,cF,cG]
  refine tq 3 rfl ?_ (fun wS hSw=>?_) ?_;rotate_left
  ·(try dsimp only at hSw);go_simp;first|done|with_reducible rfl
  try simp only[Act.put,cE,cF,cG]
  refine tq 4 rfl ?_ (fun wS hSw=>?_) ?_;rotate_left
  ·(try dsimp only at hSw)
   refine bK 9 (.tmp 11) ?_ bx 4 (S p.q) _ underlying9 rfl ?_ ?_
   ·rfl
   ·rfl
   exact hSw.aF rfl
  try simp only[Act.put,cE,cF,cG]
  refine tq 5 rfl ?_ (fun wS hSw=>?_) ?_;rotate_left
  ·(try dsimp only at hSw);go_simp;first|done|with_reducible rfl
  try simp only[Act.put,cE,cF,cG]
  refine tq 7 rfl ?_ (fun wS hSw=>?_) ?_;rotate_left
  ·(try dsimp only at hSw);go_simp;first|done|with_reducible rfl
  try simp only[Act.put,cE,cF,cG]
  refine tq 8 rfl ?_ (fun wS hSw=>?_) ?_;rotate_left
  ·(try dsimp only at hSw)
   refine bK 4 (.tmp 15) ?_ bx 5 (.bool p.bZ) _ underlying4 rfl ?_ ?_
   ·rfl
   ·rfl
   exact hSw.aF rfl
  try simp only[Act.put,cE,cF,cG]
  refine tq 9 rfl ?_ (fun wS hSw=>?_) ?_;rotate_left
  ·(try dsimp only at hSw);go_simp;first|done|with_reducible rfl
  try simp only[Act.put,cE,cF,cG]
  refine tq 10 rfl ?_ (fun wS hSw=>?_) ?_;rotate_left
  ·(try dsimp only at hSw)
   refine bK 9 (.tmp 17) ?_ bx 6 (S p.f) _ underlying9 rfl ?_ ?_
   ·rfl
   ·rfl
   exact hSw.aF rfl
  try simp only[Act.put,cE,cF,cG]
  refine rn 6 (by kernel_rfl) rfl (by rfl) (fun K hK=>?_)
  go_simp
  refine(HQ.out _).mono ?_;rintro e w5 ⟨rfl,hb5⟩;have C4:=h_ ((C3.out.keep (bH (bz _))).keep hb5);have I4:=h_ ((I3.out.below (bH (bz _))).below hb5);clear hb5;refine hK.out _ _ ?_ (fun hHeld=>?_)
  ·first|exact C3.out.keep (bH (bz _))|exact C6.out|exact C5.out|exact C4.out
  clear hK K
  try simp only[Act.put,cE,cF,cG]
  refine rn 11 (by kernel_rfl) rfl (by rfl) (fun K hK=>?_)
  go_simp
  refine(HF.out _).mono ?_;rintro e w6 ⟨rfl,hb6⟩;have C5:=h_ (C4.out.keep hb6);have I5:=h_ (I4.out.below hb6);clear hb6;refine hK.out _ _ ?_ (fun hHeld=>?_)
  ·first|exact C3.out.keep (bH (bz _))|exact C6.out|exact C5.out|exact C4.out
  clear hK K
  try simp only[Act.put,cE,cF,cG]
  refine tq 12 rfl ?_ (fun wS hSw=>?_) ?_;rotate_left
  ·(try dsimp only at hSw)
   refine vu (.tmp 8) (.tmp 10) (.tmp 14) (.tmp 16) (.tmp 19) ?_ aH p.bS (dq 3 p.q) p.bZ (dq 1 p.f) ?_ ?_ ?_ ?_ ?_ <;>rfl
  try simp only[Act.put,cE,cF,cG]
  refine rn 13 (by kernel_rfl) rfl (by rfl) (fun K hK=>?_);refine lW 30 (.tmp 4) (.tmp 20) rfl w bu 30 (ai aR U0) I5.out 0 (aV aR {U0 with aH:=aH,bS:=p.bS,q:=dq 3 p.q,bZ:=p.bZ,f:=dq 1 p.f}) rfl rfl (bR rfl) iI (xX rfl) (ai aR {U0 with aH:=aH,bS:=p.bS,q:=dq 3 p.q,bZ:=p.bZ,f:=dq 1 p.f}) (sf rfl rfl) ?_;intro w7 i7 t7;have I6:=h_ i7;have C6:=h_ (t7.cb C5.out hne);clear i7 t7;refine hK.out _ _ ?_ (fun hHeld=>?_)
  ·first|exact C3.out.keep (bH (bz _))|exact C6.out|exact C5.out|exact C4.out
  clear hK K
  try simp only[Act.put]
  refine wpAnyH_done (by kernel_rfl) ?_ _
  go_wp2_with fail
  rw[HRR.out];exact ez results98 rfl rfl I6.out ⟨rfl,I6.out.bL⟩
 go_upto_region 4 with(first
  |(go_at_call 96;refine(j0.out _).mono ?_;rintro e w4 ⟨rfl,hw⟩;subst hw)
  |fail)
 have HRR:=h_ (show R={U0 with aH:=aH,bS:=p.bS,q:=dq 2 p.q,bZ:=p.bZ,f:=dq 1 p.f} by rw[HR.out];rfl);have HQ:=H2;refine wp_region_held_drew (S:=fun W=>CB W bx 68 (bg p)) (by kernel_rfl) (by first|exact C3.out.keep (bH (bz _))|exact C6.out|exact C5.out|exact C4.out) (fun hHeld=>?_);refine tq 0 rfl ?_ (fun wS hSw=>?_) ?_;rotate_left
 ·(try dsimp only at hSw);go_simp;first|done|with_reducible rfl
 try simp only[Act.put,cE,cF,cG]
 refine tq 1 rfl ?_ (fun wS hSw=>?_) ?_;rotate_left
 ·(try dsimp only at hSw);go_simp;first|done|with_reducible rfl
 try simp only[Act.put,cE,cF,cG]
 refine tq 2 rfl ?_ (fun wS hSw=>?_) ?_;rotate_left
 ·(try dsimp only at hSw)
  refine bK 4 (.tmp 9) ?_ bx 3 (.bool p.bS) _ underlying4 rfl ?_ ?_
  ·rfl
  ·rfl
  exact hSw.aF rfl
 try simp only[Act.put,cE,cF,cG]
 refine tq 3 rfl ?_ (fun wS hSw=>?_) ?_;rotate_left
 ·(try dsimp only at hSw);go_simp;first|done|with_reducible rfl
 try simp only[Act.put,cE,cF,cG]
 refine tq 4 rfl ?_ (fun wS hSw=>?_) ?_;rotate_left
 ·(try dsimp only at hSw)
  refine bK 9 (.tmp 11) ?_ bx 4 (S p.q) _ underlying9 rfl ?_ ?_
  ·rfl
  ·rfl
  exact hSw.aF rfl
 try simp only[Act.put,cE,cF,cG]
 refine tq 5 rfl ?_ (fun wS hSw=>?_) ?_;rotate_left
 ·(try dsimp only at hSw);go_simp;first|done|with_reducible rfl
 try simp only[Act.put,cE,cF,cG]
 refine tq 7 rfl ?_ (fun wS hSw=>?_) ?_;rotate_left
 ·(try dsimp only at hSw);go_simp;first|done|with_reducible rfl
 try simp only[Act.put,cE,cF,cG]
 refine tq 8 rfl ?_ (fun wS hSw=>?_) ?_;rotate_left
 ·(try dsimp only at hSw)
  refine bK 4 (.tmp 15) ?_ bx 5 (.bool p.bZ) _ underlying4 rfl ?_ ?_
  ·rfl
  ·rfl
  exact hSw.aF rfl
 try simp only[Act.put,cE,cF,cG]
 refine tq 9 rfl ?_ (fun wS hSw=>?_) ?_;rotate_left
 ·(try dsimp only at hSw);go_simp;first|done|with_reducible rfl
 try simp only[Act.put,cE,cF,cG]
 refine tq 10 rfl ?_ (fun wS hSw=>?_) ?_;rotate_left
 ·(try dsimp only at hSw)
  refine bK 9 (.tmp 17) ?_ bx 6 (S p.f) _ underlying9 rfl ?_ ?_
  ·rfl
  ·rfl
  exact hSw.aF rfl
 try simp only[Act.put,cE,cF,cG]
 refine rn 6 (by kernel_rfl) rfl (by rfl) (fun K hK=>?_)
 go_simp
 refine(HQ.out _).mono ?_;rintro e w5 ⟨rfl,hb5⟩;have C4:=h_ ((C3.out.keep (bH (bz _))).keep hb5);have I4:=h_ ((I3.out.below (bH (bz _))).below hb5);clear hb5;refine hK.out _ _ ?_ (fun hHeld=>?_)
 ·first|exact C3.out.keep (bH (bz _))|exact C6.out|exact C5.out|exact C4.out
 clear hK K
 try simp only[Act.put,cE,cF,cG]
 refine rn 11 (by kernel_rfl) rfl (by rfl) (fun K hK=>?_)
 go_simp
 refine(HF.out _).mono ?_;rintro e w6 ⟨rfl,hb6⟩;have C5:=h_ (C4.out.keep hb6);have I5:=h_ (I4.out.below hb6);clear hb6;refine hK.out _ _ ?_ (fun hHeld=>?_)
 ·first|exact C3.out.keep (bH (bz _))|exact C6.out|exact C5.out|exact C4.out
 clear hK K
 try simp only[Act.put,cE,cF,cG]
 refine tq 12 rfl ?_ (fun wS hSw=>?_) ?_;rotate_left
 ·(try dsimp only at hSw)
  refine vu (.tmp 8) (.tmp 10) (.tmp 14) (.tmp 16) (.tmp 19) ?_ aH p.bS (dq 2 p.q) p.bZ (dq 1 p.f) ?_ ?_ ?_ ?_ ?_ <;>rfl
 try simp only[Act.put,cE,cF,cG]
 refine rn 13 (by kernel_rfl) rfl (by rfl) (fun K hK=>?_);refine lW 30 (.tmp 4) (.tmp 20) rfl w bu 30 (ai aR U0) I5.out 0 (aV aR {U0 with aH:=aH,bS:=p.bS,q:=dq 2 p.q,bZ:=p.bZ,f:=dq 1 p.f}) rfl rfl (bR rfl) iI (xX rfl) (ai aR {U0 with aH:=aH,bS:=p.bS,q:=dq 2 p.q,bZ:=p.bZ,f:=dq 1 p.f}) (sf rfl rfl) ?_;intro w7 i7 t7;have I6:=h_ i7;have C6:=h_ (t7.cb C5.out hne);clear i7 t7;refine hK.out _ _ ?_ (fun hHeld=>?_)
 ·first|exact C3.out.keep (bH (bz _))|exact C6.out|exact C5.out|exact C4.out
 clear hK K
 try simp only[Act.put]
 refine wpAnyH_done (by kernel_rfl) ?_ _
 go_wp2_with fail
 rw[HRR.out];exact ez results98 rfl rfl I6.out ⟨rfl,I6.out.bL⟩

def Cy(w:World):Option Url->Ending->World->Prop
 |none,e,w'=>e=Fq∧Below w.heap.size w w'
 |some u,e,w'=>∃ pv,e=.returned (.agg (ai pv u))∧w'.ownsRow w.heap.size 9 1 pv u.path.length (Strs u.path)∧Below w.heap.size w w'
theorem OB.of{w0 W:World}{b:Nat}{T:TypeId}{cs:Array Value}(i:CB W b T cs)(hle:w0.heap.size<=b)(hb:Below w0.heap.size w0 W):OB w0 b T cs W:=⟨i.a,hle,hb⟩
theorem own_below'{W W':World}{base e n:Nat}{v:Value}{xs:List Value}(h:W.ownsRow base e 1 v n xs)(hb:Below W.heap.size W W'):W'.ownsRow base e 1 v n xs:=own_below h hb
section
variable {ops:Array Oper} {rest:List Oper} {o:Oper} {a:Act} {w:World} {Q:Exit->Act->World->Prop}
theorem fm(hgd:o.guard=none)(x:Operand)(ho:o.op=.load 30 x)(w0:World)(b:Nat)(pv:Value)(u:Url)(i:OB w0 b 30 (ai pv u) w)(h8:u.host.six.length=8)(hx:a.eval x=.pointer (some ⟨b,0,none⟩))
  (K:wpList prog ops Q rest (a.put o.dst (.agg (ai pv u))) w):wpList prog ops Q (o::rest) a w :=
 DH hgd _ x ho w0 b 30 (ai pv u) i _ hx underlying30 rfl (by rw[jX h8];exact iI) K
theorem fU(hgd:o.guard=none)(x y:Operand)(ho:o.op=.store 30 x y)(w0:World)(b:Nat)(i:OB w0 b 30 (ai aR U0) w)(pv:Value)(u:Url)(h8:u.host.six.length=8)(h1:pv.oneCell'=true)
  (hx:a.eval x=.pointer (some ⟨b,0,none⟩)) (hy:a.eval y=.agg (ai pv u))
  (K:∀ w',OB w0 b 30 (ai pv u) w'->Tn b w w'->wpList prog ops Q rest (a.put o.dst undef) w'):wpList prog ops Q (o::rest) a w :=
 t4 hgd _ x y ho w0 b 30 (ai aR U0) i 0 (aV pv u) hx hy (by rw[pm h8];exact bR rfl) (by rw[pm h8];exact iI) (xX h1) (ai pv u) (sf rfl h8) K
theorem lj(hgd:Region.wanted o (yielded ops a.tmps)=true)(x:Operand)(ho:o.op=.load 68 x)(b:Nat)(p:lH)(i:CB w b 68 (bg p))(hx:a.eval x=.pointer (some ⟨b,0,none⟩))
  (K:wpList prog ops Q rest (a.put o.dst (.agg (bg p))) w):wpList prog ops Q (o::rest) a w :=
 Sc hgd _ x ho b (bg p) _ underlying68 rfl nH hx i K
end
structure K2 (bx br b:Nat) (p:lH) (W:World):Prop where
 x:CB W bx 68 (bg p)
 r:CB W br 30 (ai aR U0)
 nx:bx≠b
 nr:br≠b
theorem K2.below{bx br b:Nat}{p:lH}{W W':World}(k:K2 bx br b p W)(h:Below W.heap.size W W'):K2 bx br b p W':=⟨k.x.keep h,k.r.keep h,k.nx,k.nr⟩
theorem K2.tn{bx br b:Nat}{p:lH}{W W':World}(k:K2 bx br b p W)(h:Tn b W W'):K2 bx br b p W':=⟨h.cb k.x k.nx,h.cb k.r k.nr,k.nx,k.nr⟩
structure Rs (s:Bytes):Prop where
 l:s.length<=307200000
 a:∀ sp k,Fx (dO sp (s.drop k)).1
 n:∀ sp k,Short (dO sp (s.drop k)).1
theorem YR{s:Bytes}(h:s.length<=1048576):Rs s:=by
 have hd:∀ sp k,(dO sp (s.drop k)).1.length<=1048576:=fun sp k=>by have:=(ox sp (s.drop k)).1;rw[ah]at this;omega
 exact⟨by omega,fun sp k=>Ls (hd sp k),fun sp k=>ER (hd sp k)⟩
theorem vw(l m:Bytes)(w:World):bV prog 95 #[.string (bs l),.string (bs m)] w (.tuple #[S (Lib.trimPrefix l m),.bool (Lib.hasPrefix l m)]):=by
 have h:=Any.strings_CutPrefix laysCut (bs l) (bs m) w;rw[show(bs l).data.toList=l from dR l,show(bs m).data.toList=m from dR m]at h;exact h
theorem Wc(l:Bytes):Lib.hasPrefix l [47,47]=true ↔ ∃r,l=47::47::r:=by
 unfold Lib.hasPrefix;constructor
 ·intro h
  obtain⟨r,rfl⟩:=dD.1 h;exact⟨r,rfl⟩
 rintro⟨r,rfl⟩;exact dD.2 ⟨r,rfl⟩
theorem hpS(l:Bytes):Lib.hasPrefix l [47]=true ↔ ∃r,l=47::r:=by
 unfold Lib.hasPrefix;constructor
 ·intro h
  obtain⟨r,rfl⟩:=dD.1 h;exact⟨r,rfl⟩
 rintro⟨r,rfl⟩;exact dD.2 ⟨r,rfl⟩
theorem kH{u v:Url}{s:Bytes}(h:kf u s=some v):v.host.six.length=8:=by
 have h8:=@ath_six u.aH (dO (eK u.aH) s).1;unfold kf at h;cases hA:kg u.aH (dO (eK u.aH) s).1 with
 |none=>simp[hA]at h
 |some a =>
  rw[hA]at h8;simp only[hA,dA]at h;rw[<-h];exact h8

theorem SD{p:lH}{r:Bytes}(h:p.rest=47::47::r):fN p=kf (dj p.aH p) r:=by
 unfold fN;rw[h];rfl
theorem SF{p:lH}{r:Bytes}(h:p.rest=47::r)(h2:¬ ∃t,p.rest=47::47::t):fN p=some {dj p.aH p with path:=dc (dj p.aH p).aH [] r}:=by
 unfold fN;rw[h]at h2 ⊢;cases r with
 |nil=>rfl
 |cons c t =>
  by_cases hc:c=47
  ·subst hc
   exact absurd ⟨t,rfl⟩ h2
  dsimp only
  split
  ·rename_i r' he
   exact absurd (a6A (a6A he).2).1 hc
  ·rename_i r' _ he
   have:=(a6A he).2;subst this;rfl
  rename_i s' _ h3
  exact(h3 _ rfl).elim
theorem SG{p:lH}(h2:¬ ∃t,p.rest=47::t):fN p=some {dj p.aH p with opq:=true,flat:=if(p.bS=true∨p.bZ=true)∧(dq 0 p.rest).getLast? = some 32 then(dq 0 p.rest).dropLast++[37,50,48]else dq 0 p.rest}:=by
 unfold fN
 split
 ·rename_i r he
  exact absurd ⟨_,he⟩ h2
 ·rename_i r _ he
  exact absurd ⟨_,he⟩ h2
 rfl
theorem oW{w:World}{base e:Nat}{l:List Bytes}(h:l=[]):w.ownsRow base e 1 aR l.length (Strs l):=by rw[h];exact Kq
theorem a9L(l:Bytes):Lib.hasSuffix l [32]=true ↔ l.getLast? = some 32:=by
 unfold Lib.hasSuffix;rw[a2e];constructor
 ·rintro⟨r,rfl⟩
  simp
 intro h;obtain⟨r,rfl⟩:=a3l.1 h;exact⟨r,rfl⟩
theorem b0a(l:Bytes)(h:Lib.hasSuffix l [32]=true):Lib.trimSuffix l [32]=l.dropLast:=by
 unfold Lib.trimSuffix;rw[if_pos h,m8];rfl
theorem Hu(p:lH)(w:World)(hr:Rs p.rest)(hq:p.q.length<=307200000)(hf:p.f.length<=307200000)(hE:Env w):Calls prog 101 #[.agg (bg p)] w (Cy w (fN p)):=by
 have HST:=h_ (fun W=>pR p.aH p W (by omega) (by omega));have hc2:=fun W=>vw p.rest [47,47] W;have hc1:=fun W=>vw p.rest [47] W;have hcs:=fun W=>Ge (dq 0 p.rest) [32] W (by have:=iw 0 p.rest;have:=hr.l;omega);have hen:=fun W=>fz 0 p.rest W (by have:=hr.l;omega);obtain⟨us,nT⟩:=az (dj p.aH p);have h8:us.host.six.length=8:=by rw[nT];rfl
 have hsc:us.aH=p.aH:=by rw[nT];rfl
 have hup:us.path=[]:=by rw[nT];rfl
 rw[<-nT]at HST;obtain⟨R,hR⟩:=az (fN p);rw[<-hR];have HE:=h_ hE;have tE:=h_ hr;have H8:=h_ h8;have uL:=h_ hsc;have Cd:=h_ hup;rw[show bs [47,47]=⟨#[47,47]⟩from rfl]at hc2;rw[show bs [47]=⟨#[47]⟩from rfl]at hc1;rw[show bs [32]=⟨#[32]⟩from rfl]at hcs;have Cm:=h_ hcs;have Am:=h_ hen;have HC1:=h_ hc1;have Oa:=h_ hc2;have HR:=h_ hR;have HUS:=h_ nT;clear hr hq hf hE h8 hsc hup hc2 hc1 hcs hen hR nT;go_enter func101,ntmps101
 go_upto_region 1 with(first
  |(refine aS rfl 30 rfl _ _ (ef _) ?_)
  |fail)
 have hx:=CB.new w 68 (bg p);have hb:=(Below.refl w.heap.size w).alloc (af _) (.cells (bg p) 68);obtain⟨w2,hw2⟩:=az (w.alloc (.cells (bg p) 68));have hz:w2.heap.size=w.heap.size+1:=by rw[hw2];simp
 rw[<-hw2]at hx hb ⊢;have hu:=CB.new w2 30 (ai aR U0);have hb2:=(Below.refl w2.heap.size w2).alloc (af _) (.cells (ai aR U0) 30);obtain⟨w3,hw3⟩:=az (w2.alloc (.cells (ai aR U0) 30));have hz3:w3.heap.size=w.heap.size+2:=by rw[hw3];simp[hz]
 rw[<-hw3]at hu hb2 ⊢;rw[hz]at hu
 try rw[hz]
 have hx3:=hx.keep hb2;obtain⟨bx,hbx⟩:=az (w.heap.size);obtain⟨br,hbr⟩:=az (w.heap.size+1);rw[<-hbr]at hu ⊢;rw[<-hbx]at hx3 ⊢;have hlx:bx<w3.heap.size:=by omega
 have hlr:br<w3.heap.size:=by omega
 have jL:=h_ (show w.heap.size<=br by omega);have B3:=h_ (iK hb hb2);have X3:=h_ hx3;have R3:=h_ hu;clear hx hb hw2 hz hu hb2 hw3 hx3 hbx hbr hz3;have c1:=X3.out.aF (j:=1) (v:=S p.aH) rfl
 go_upto_region 2 with(first
  |(refine lj rfl (.tmp 1) rfl bx p X3.out rfl ?_)
  |(go_at_call 98;refine(HST.out _).mono ?_;rintro e w4 ⟨rfl,hb⟩;have eM:=h_ hb;clear hb)
  |(refine aS rfl 30 rfl _ _ (ef _) ?_)
  |(refine fP rfl (.tmp 3) (.tmp 13) rfl aR us H8.out rfl rfl rfl rfl ?_;intro w5 hh hb;have I5:=h_ (OB.of (w0:=w) hh (ap B3.out.size eM.out.size) (iK (iK B3.out eM.out) hb));have K5:=h_ (show K2 bx br w4.heap.size p w5 from⟨(X3.out.keep eM.out).keep hb,(R3.out.keep eM.out).keep hb,by have:=eM.out.size;omega,by have:=eM.out.size;omega⟩);have mW:=h_ (show br<w4.heap.size by have:=eM.out.size;omega);clear hh hb)
  |fail)
 obtain⟨b,hbb⟩:=az (w4.heap.size);rw[<-hbb]at I5 K5 mW ⊢;clear c1 hbb hlx hlr;have c2:=K5.out.x.aF (j:=2) (v:=S p.rest) rfl;by_cases hA:∃ r,p.rest=47::47::r
 ·obtain⟨r,hr⟩:=hA
  have hp1:Lib.hasPrefix p.rest [47,47]=true:=(Wc _).2 ⟨r,hr⟩;have ht:Lib.trimPrefix p.rest [47,47]=r:=by unfold Lib.trimPrefix;rw[if_pos hp1,hr];rfl
  have dH:=h_ (show R=kf us r by rw[HR.out,SD hr,HUS.out]);have XM:=h_ (fun W=>(show bV prog 95 #[S p.rest,.string ⟨#[47,47]⟩] W (.tuple #[S r,.bool true])from by have h:=Oa.out W;rw[ht,hp1]at h;exact h));have HAS:=h_ (fun W (i:OB w b 30 (ai aR us) W)=>uT w b us r W i H8.out Cd.out (by have:=tE.out.l;rw[hr]at this;simp at this;omega) (by have:=tE.out.a (eK us.aH) 2;rw[hr]at this;exact this) (HE.out.below i.bL));clear hp1 ht hr;cases hO:kf us r with
  |none =>
   rw[hO]at dH;have sw:=h_ (fun W i=>(show Calls prog 99 #[.pointer (some ⟨b,0,none⟩),S r] W fun e w'=>e=Fq∧Below w.heap.size w w'∧Tn b W w' from by have h:=HAS.out W i;rw[hO]at h;exact h));clear hO HAS
   go_wp2_with (first
    |(go_at_call 95;refine(XM.out _).mono ?_;rintro e w6 ⟨rfl,hw⟩;subst hw)
    |(go_at_call 99;refine(sw.out _ I5.out).mono ?_;rintro e w7 ⟨rfl,hb,_⟩;have B7:=h_ hb;clear hb)
    |fail)
   rw[dH.out];exact⟨rfl,rfl,B7.out⟩
  |some u =>
   rw[hO]at dH;have sw:=h_ (fun W i=>(show Calls prog 99 #[.pointer (some ⟨b,0,none⟩),S r] W fun e w'=>e=.returned (.tuple #[])∧(∃pv,OB w b 30 (ai pv u) w'∧w'.ownsRow W.heap.size 9 1 pv u.path.length (Strs u.path))∧Tn b W w' from by have h:=HAS.out W i;rw[hO]at h;exact h));have U8:=h_ (kH hO);clear hO HAS
   go_wp2_with (first
    |(go_at_call 95;refine(XM.out _).mono ?_;rintro e w6 ⟨rfl,hw⟩;subst hw)
    |(go_at_call 99;refine(sw.out _ I5.out).mono ?_;rintro e w7 ⟨rfl,⟨pv,i7,o7⟩,t7⟩;have I7:=h_ i7;have O7:=h_ o7;have K7:=h_ (K5.out.tn t7);clear i7 o7 t7)
    |(refine fm rfl (.tmp 3) rfl w b pv u I7.out U8.out rfl ?_)
    |(refine fU rfl (.tmp 2) (.tmp 23) rfl w br (OB.of K7.out.r jL.out I7.out.bL) pv u U8.out (bm O7.out) rfl rfl ?_;intro w8 i8 t8;have I8:=h_ i8;have O8:=h_ (bh (t8.row O7.out (aQ mW.out (ym I5.out.lt))) I5.out.bL.size);clear i8 t8)
    |fail)
   rw[dH.out];exact ez (u:=u) results101 U8.out rfl I8.out ⟨pv,rfl,O8.out,I8.out.bL⟩
 by_cases hB:∃ r,p.rest=47::r
 ·obtain⟨r,hr⟩:=hB
  have hp0:Lib.hasPrefix p.rest [47,47]=false:=by rw[N9];exact fun h=>hA ((Wc _).1 h)
  have ht0:Lib.trimPrefix p.rest [47,47]=p.rest:=by unfold Lib.trimPrefix;rw[if_neg (by simp[hp0])]
  have hp1:Lib.hasPrefix p.rest [47]=true:=(hpS _).2 ⟨r,hr⟩;have ht:Lib.trimPrefix p.rest [47]=r:=by unfold Lib.trimPrefix;rw[if_pos hp1,hr];rfl
  have XM:=h_ (fun W=>(show bV prog 95 #[S p.rest,.string ⟨#[47,47]⟩] W (.tuple #[S p.rest,.bool false])from by have h:=Oa.out W;rw[ht0,hp0]at h;exact h));have HCB:=h_ (fun W=>(show bV prog 95 #[S p.rest,.string ⟨#[47]⟩] W (.tuple #[S r,.bool true])from by have h:=HC1.out W;rw[ht,hp1]at h;exact h));obtain⟨P,hP⟩:=az (dc us.aH [] r);have mX:=h_ (fun W=>(show Calls prog 129 #[S us.aH,aR,S r] W (gU W 9 (Strs P))from by rw[hP];exact gY us.aH r [] aR W Sl.nil (by have:=tE.out.l;rw[hr]at this;simp at this;omega) (by simp) (by simp)));have uK:=h_ (show R=some {us with path:=P} by rw[HR.out,SF hr hA,hP,HUS.out]);clear hp0 ht0 hp1 ht hr hA hP;have c0:=I5.out.aF (uF aR us H8.out).aH
  go_upto_region 8 with(first
   |(go_at_call 95;(with_reducible first|(refine(XM.out _).mono ?_)|(refine(HCB.out _).mono ?_));rintro e w6 ⟨rfl,hw⟩;subst hw)
   |fail)
  go_wp2_with (first
   |(go_at_call 129;refine(mX.out _).mono ?_;rintro e w7 ⟨pv,rfl,o7,hb⟩;have O7:=h_ o7;have I7:=h_ (I5.out.below hb);have K7:=h_ (K5.out.below hb);clear o7 hb)
   |(refine ex rfl 28 (.tmp 35) (.tmp 34) rfl w b 30 (ai aR us) I7.out 18 pv rfl rfl (gy H8.out (by decide)) dP (bm O7.out) (ai pv {us with path:=P}) ((gw aR us H8.out).path _ _) ?_;intro w8 i8 t8;have I8:=h_ i8;have K8:=h_ (K7.out.tn t8);have O8:=h_ (t8.row O7.out I5.out.lt);clear i8 t8)
   |(refine fm rfl (.tmp 3) rfl w b pv {us with path:=P} I8.out H8.out rfl ?_)
   |(refine fU rfl (.tmp 2) (.tmp 36) rfl w br (OB.of K8.out.r jL.out I8.out.bL) pv {us with path:=P} H8.out (bm O8.out) rfl rfl ?_;intro w9 i9 t9;have I9:=h_ i9;have O9:=h_ (bh (t9.row O8.out (aQ mW.out (ym I5.out.lt))) I5.out.bL.size);clear i9 t9)
   |fail)
  rw[uK.out];exact ez (u:={us with path:=P}) results101 H8.out rfl I9.out ⟨pv,rfl,fE O9.out,I9.out.bL⟩
 have hp0:Lib.hasPrefix p.rest [47,47]=false:=by rw[N9];exact fun h=>hA ((Wc _).1 h)
 have ht0:Lib.trimPrefix p.rest [47,47]=p.rest:=by unfold Lib.trimPrefix;rw[if_neg (by simp[hp0])]
 have hp1:Lib.hasPrefix p.rest [47]=false:=by rw[N9];exact fun h=>hB ((hpS _).1 h)
 have ht:Lib.trimPrefix p.rest [47]=p.rest:=by unfold Lib.trimPrefix;rw[if_neg (by simp[hp1])]
 have XM:=h_ (fun W=>(show bV prog 95 #[S p.rest,.string ⟨#[47,47]⟩] W (.tuple #[S p.rest,.bool false])from by have h:=Oa.out W;rw[ht0,hp0]at h;exact h));have HCB:=h_ (fun W=>(show bV prog 95 #[S p.rest,.string ⟨#[47]⟩] W (.tuple #[S p.rest,.bool false])from by have h:=HC1.out W;rw[ht,hp1]at h;exact h));obtain⟨fl,hfl⟩:=az (dq 0 p.rest);have yo:=h_ (show R=some {us with opq:=true,flat:=if(p.bS=true∨p.bZ=true)∧fl.getLast? = some 32 then fl.dropLast++[37,50,48]else fl} by rw[HR.out,SG hB,hfl,HUS.out]);have hsx:=a9L fl;have htx:=b0a fl;rw[<-hfl]at Am Cm;have An:=h_ (show fl.length<=921600000 by rw[hfl];have:=iw 0 p.rest;have:=tE.out.l;omega);generalize Lib.hasSuffix fl [32]=hs at *;generalize Lib.trimSuffix fl [32]=tf at *;have Zs:=h_ htx;have Cv:=h_ hsx;clear hp0 ht0 hp1 ht hB hA hfl htx hsx
 go_upto_region 12 with(first
  |(go_at_call 95;(with_reducible first|(refine(XM.out _).mono ?_)|(refine(HCB.out _).mono ?_));rintro e w6 ⟨rfl,hw⟩;subst hw)
  |(refine ex rfl 4 (.tmp 37) (.const (.bool true)) rfl w b 30 (ai aR us) I5.out 16 (.bool true) rfl rfl (gy H8.out (by decide)) bU.2.2 rfl (ai aR {us with opq:=true}) ((gw aR us H8.out).opq _) ?_;intro w7 i7 t7;have I7:=h_ i7;have K7:=h_ (K5.out.tn t7);have d2:=K7.out.x.aF (j:=2) (v:=S p.rest) rfl;clear i7 t7)
  |(go_at_call 132;refine(Am.out _).mono ?_;rintro e w8 ⟨rfl,hb⟩;have I8:=h_ (I7.out.below hb);have K8:=h_ (K7.out.below hb);clear hb)
  |(refine ex rfl 9 (.tmp 41) (.tmp 40) rfl w b 30 (ai aR {us with opq:=true}) I8.out 17 (S fl) rfl rfl (gy H8.out (by decide)) bU.1 rfl (ai aR {us with opq:=true,flat:=fl}) ((gw aR {us with opq:=true} H8.out).flat _) ?_;intro w9 i9 t9;have I9:=h_ i9;have K9:=h_ (K8.out.tn t9);clear i9 t9)
  |fail)
 clear c2 d2;have c3:=K9.out.x.aF (j:=3) (v:=.bool p.bS) rfl;have c5:=K9.out.x.aF (j:=5) (v:=.bool p.bZ) rfl;have c17:=I9.out.aF (uF aR {us with opq:=true,flat:=fl} H8.out).flat;have hcs:(p.bS=true)∨(p.bS=false∧p.bZ=true)∨(p.bS=false∧p.bZ=false):=by cases p.bS <;>cases p.bZ <;>simp
 rcases hcs with hq|⟨hq,hf⟩|⟨hq,hf⟩
 ·rw[hq]at c3
  cases hs with
  |true =>
   have Cb:=h_ (show R=some {us with opq:=true,flat:=fl.dropLast++[37,50,48]} by rw[yo.out,if_pos ⟨by simp[hq],Cv.out.1 rfl⟩]);have GH:=Zs.out rfl;have HTF:=h_ (show S tf=S fl.dropLast by rw[GH]);have HAD:=h_ (show bs tf++(⟨#[37,50,48]⟩:ByteArray)=bs (fl.dropLast++[37,50,48]) by rw[GH,<-sH];rfl);obtain⟨tg,htg⟩:=az (bs (fl.dropLast++[37,50,48]));rw[<-htg]at HAD;have HTG:=h_ htg;obtain⟨th,hth⟩:=az (bs tf);rw[<-hth]at HAD;have XO:=h_ (fun W=>(show bV prog 136 #[S fl,.string ⟨#[32]⟩] W (.tuple #[.string th,.bool true])from by rw[hth];exact Cm.out W));clear htg Cm HTF;have a9N:th.size<=921600000:=by rw[hth,aM,GH,gO];have:=An.out;omega
   clear hth GH;have had:=HAD.out
   go_upto_region 15 with(first
    |(go_at_call 136;refine(XO.out _).mono ?_;rintro e BX ⟨rfl,hw⟩;subst hw)
    |fail)
   go_upto_region 16 with(first
    |(refine ex rfl 9 (.tmp 57) (.tmp 56) rfl w b 30 (ai aR {us with opq:=true,flat:=fl}) I9.out 17 (.string tg) rfl rfl (gy H8.out (by decide)) bU.1 rfl (ai aR {us with opq:=true,flat:=fl.dropLast++[37,50,48]}) (by rw[HTG.out];exact(gw aR {us with opq:=true,flat:=fl} H8.out).flat _) ?_;intro Uu i11 t11;have yG:=h_ i11;have Vb:=h_ (K9.out.tn t11);clear i11 t11)
    |fail)
   go_wp2_with (first
    |(refine fm rfl (.tmp 3) rfl w b aR {us with opq:=true,flat:=fl.dropLast++[37,50,48]} yG.out H8.out rfl ?_)
    |(refine fU rfl (.tmp 2) (.tmp 58) rfl w br (OB.of Vb.out.r jL.out yG.out.bL) aR {us with opq:=true,flat:=fl.dropLast++[37,50,48]} H8.out rfl rfl rfl ?_;intro wZ iZ _;have IZ:=h_ iZ;clear iZ)
    |fail)
   rw[Cb.out];exact ez (u:={us with opq:=true,flat:=fl.dropLast++[37,50,48]}) results101 H8.out rfl IZ.out ⟨aR,rfl,oW Cd.out,IZ.out.bL⟩
  |false =>
   have Cb:=h_ (show R=some {us with opq:=true,flat:=fl} by rw[yo.out,if_neg (by rintro⟨_,h⟩;have:=Cv.out.2 h;cases this)])
   go_wp2_with (first
    |(go_at_call 136;refine(Cm.out _).mono ?_;rintro e BX ⟨rfl,hw⟩;subst hw)
    |(refine fm rfl (.tmp 3) rfl w b aR {us with opq:=true,flat:=fl} I9.out H8.out rfl ?_)
    |(refine fU rfl (.tmp 2) (.tmp 58) rfl w br (OB.of K9.out.r jL.out I9.out.bL) aR {us with opq:=true,flat:=fl} H8.out rfl rfl rfl ?_;intro wZ iZ _;have IZ:=h_ iZ;clear iZ)
    |fail)
   rw[Cb.out];exact ez (u:={us with opq:=true,flat:=fl}) results101 H8.out rfl IZ.out ⟨aR,rfl,oW Cd.out,IZ.out.bL⟩
 ·rw[hq]at c3
  rw[hf]at c5;cases hs with
  |true =>
   have Cb:=h_ (show R=some {us with opq:=true,flat:=fl.dropLast++[37,50,48]} by rw[yo.out,if_pos ⟨by simp[hf],Cv.out.1 rfl⟩]);have GH:=Zs.out rfl;have HTF:=h_ (show S tf=S fl.dropLast by rw[GH]);have HAD:=h_ (show bs tf++(⟨#[37,50,48]⟩:ByteArray)=bs (fl.dropLast++[37,50,48]) by rw[GH,<-sH];rfl);obtain⟨tg,htg⟩:=az (bs (fl.dropLast++[37,50,48]));rw[<-htg]at HAD;have HTG:=h_ htg;obtain⟨th,hth⟩:=az (bs tf);rw[<-hth]at HAD;have XO:=h_ (fun W=>(show bV prog 136 #[S fl,.string ⟨#[32]⟩] W (.tuple #[.string th,.bool true])from by rw[hth];exact Cm.out W));clear htg Cm HTF;have a9N:th.size<=921600000:=by rw[hth,aM,GH,gO];have:=An.out;omega
   clear hth GH;have had:=HAD.out
   go_upto_region 15 with(first
    |(go_at_call 136;refine(XO.out _).mono ?_;rintro e BX ⟨rfl,hw⟩;subst hw)
    |fail)
   go_upto_region 16 with(first
    |(refine ex rfl 9 (.tmp 57) (.tmp 56) rfl w b 30 (ai aR {us with opq:=true,flat:=fl}) I9.out 17 (.string tg) rfl rfl (gy H8.out (by decide)) bU.1 rfl (ai aR {us with opq:=true,flat:=fl.dropLast++[37,50,48]}) (by rw[HTG.out];exact(gw aR {us with opq:=true,flat:=fl} H8.out).flat _) ?_;intro Uu i11 t11;have yG:=h_ i11;have Vb:=h_ (K9.out.tn t11);clear i11 t11)
    |fail)
   go_wp2_with (first
    |(refine fm rfl (.tmp 3) rfl w b aR {us with opq:=true,flat:=fl.dropLast++[37,50,48]} yG.out H8.out rfl ?_)
    |(refine fU rfl (.tmp 2) (.tmp 58) rfl w br (OB.of Vb.out.r jL.out yG.out.bL) aR {us with opq:=true,flat:=fl.dropLast++[37,50,48]} H8.out rfl rfl rfl ?_;intro wZ iZ _;have IZ:=h_ iZ;clear iZ)
    |fail)
   rw[Cb.out];exact ez (u:={us with opq:=true,flat:=fl.dropLast++[37,50,48]}) results101 H8.out rfl IZ.out ⟨aR,rfl,oW Cd.out,IZ.out.bL⟩
  |false =>
   have Cb:=h_ (show R=some {us with opq:=true,flat:=fl} by rw[yo.out,if_neg (by rintro⟨_,h⟩;have:=Cv.out.2 h;cases this)])
   go_wp2_with (first
    |(go_at_call 136;refine(Cm.out _).mono ?_;rintro e BX ⟨rfl,hw⟩;subst hw)
    |(refine fm rfl (.tmp 3) rfl w b aR {us with opq:=true,flat:=fl} I9.out H8.out rfl ?_)
    |(refine fU rfl (.tmp 2) (.tmp 58) rfl w br (OB.of K9.out.r jL.out I9.out.bL) aR {us with opq:=true,flat:=fl} H8.out rfl rfl rfl ?_;intro wZ iZ _;have IZ:=h_ iZ;clear iZ)
    |fail)
   rw[Cb.out];exact ez (u:={us with opq:=true,flat:=fl}) results101 H8.out rfl IZ.out ⟨aR,rfl,oW Cd.out,IZ.out.bL⟩
 rw[hq]at c3;rw[hf]at c5;have Cb:=h_ (show R=some {us with opq:=true,flat:=fl} by rw[yo.out,if_neg (by simp[hq,hf])])
 go_wp2_with (first
  |(refine fm rfl (.tmp 3) rfl w b aR {us with opq:=true,flat:=fl} I9.out H8.out rfl ?_)
  |(refine fU rfl (.tmp 2) (.tmp 58) rfl w br (OB.of K9.out.r jL.out I9.out.bL) aR {us with opq:=true,flat:=fl} H8.out rfl rfl rfl ?_;intro wZ iZ _;have IZ:=h_ iZ;clear iZ)
  |fail)
 rw[Cb.out];exact ez (u:={us with opq:=true,flat:=fl}) results101 H8.out rfl IZ.out ⟨aR,rfl,oW Cd.out,IZ.out.bL⟩

structure K3 (bb bx br b:Nat) (bv:Value) (u:Url) (p:lH) (W:World):Prop where
 cb:CB W bb 30 (ai bv u)
 cx:CB W bx 68 (bg p)
 cr:CB W br 30 (ai aR U0)
 nb:bb≠b
 nx:bx≠b
 nr:br≠b
section
variable {bb bx br b:Nat} {bv:Value} {u:Url} {p:lH} {W W':World}
theorem K3.below(k:K3 bb bx br b bv u p W)(h:Below W.heap.size W W'):K3 bb bx br b bv u p W':=⟨k.cb.keep h,k.cx.keep h,k.cr.keep h,k.nb,k.nx,k.nr⟩
theorem K3.tn(k:K3 bb bx br b bv u p W)(h:Tn b W W'):K3 bb bx br b bv u p W':=⟨h.cb k.cb k.nb,h.cb k.cx k.nx,h.cb k.cr k.nr,k.nb,k.nx,k.nr⟩
end
theorem three(w:World)(bv:Value)(u:Url)(p:lH):∃ w3,((w.alloc (.cells (ai bv u) 30)).alloc (.cells (bg p) 68)).alloc (.cells (ai aR U0) 30)=w3∧w3.heap.size=w.heap.size+3∧Below w.heap.size w w3∧CB w3 w.heap.size 30 (ai bv u)∧CB w3 (w.heap.size+1) 68 (bg p)∧CB w3 (w.heap.size+2) 30 (ai aR U0):=by
 have hx:=CB.new w 30 (ai bv u);have hb:=(Below.refl w.heap.size w).alloc (af _) (.cells (ai bv u) 30);obtain⟨w1,hw1⟩:=az (w.alloc (.cells (ai bv u) 30));have hz1:w1.heap.size=w.heap.size+1:=by rw[hw1];simp
 rw[<-hw1]at hx hb ⊢;have hy:=CB.new w1 68 (bg p);have hb2:=(Below.refl w1.heap.size w1).alloc (af _) (.cells (bg p) 68);obtain⟨w2,hw2⟩:=az (w1.alloc (.cells (bg p) 68));have hz2:w2.heap.size=w.heap.size+2:=by rw[hw2];simp[hz1]
 rw[<-hw2]at hy hb2 ⊢;have hu:=CB.new w2 30 (ai aR U0);have hb3:=(Below.refl w2.heap.size w2).alloc (af _) (.cells (ai aR U0) 30);obtain⟨w3,hw3⟩:=az (w2.alloc (.cells (ai aR U0) 30));have hz3:w3.heap.size=w.heap.size+3:=by rw[hw3];simp[hz2]
 rw[<-hw3]at hu hb3 ⊢;rw[hz1]at hy;rw[hz2]at hu;exact⟨w3,rfl,hz3,iK (iK hb hb2) hb3,(hx.keep hb2).keep hb3,hy.keep hb3,hu⟩
theorem Xg{B:Nat}{w:World}{v:Value}{xs:List Value}(h:Sl B w v xs):v.oneCell'=true:=by
 obtain⟨c,_,_,⟨_,a,rfl⟩|⟨b,o,_,rfl,_⟩⟩:=h <;>rfl
theorem QA(bu:Url)(bv:Value)(p:lH)(w:World)(h8:bu.host.six.length=8)(hbv:Sl w.heap.size w bv (bu.path.map S))(hbl:bu.path.length<=307200000)(hf:p.f.length<=307200000):Calls prog 102 #[.agg (ai bv bu),.agg (bg p)] w (Cy w (lS bu p)):=by
 have Am:=h_ (fun W=>fz 1 p.f W (by omega));obtain⟨R,hR⟩:=az (lS bu p);rw[<-hR];unfold lS at hR;have H8:=h_ h8;have Ub:=h_ hbv;have mW:=h_ hbl;have HR:=h_ hR;obtain⟨ff,GC⟩:=az (dq 1 p.f);rw[<-GC]at Am HR;have hre:(bs p.rest).toList=[] ↔ p.rest=[]:=by rw[ay]
 have yp:=h_ hre
 have hk:(p.bZ=true∧p.bS=false∧p.rest=[])∨(p.bZ=false)∨(p.bZ=true∧p.bS=true)∨(p.bZ=true∧p.bS=false∧p.rest ≠ []):=by
  cases p.bZ <;>cases p.bS <;>by_cases h:p.rest=[] <;>simp[h]
 clear h8 hbv hbl hf hR hre GC;go_enter func102,ntmps102
 go_upto_region 1 with(first
  |(refine aS rfl 30 rfl _ _ (ef _) ?_)
  |fail)
 obtain⟨w3,hw3,hz3,hb,k1,k2,k3⟩:=three w bv bu p
 try rw[show((w.alloc (.cells (ai bv bu) 30)).alloc (.cells (bg p) 68)).heap.size=w.heap.size+2 by simp]
 rw[hw3];clear hw3;obtain⟨br,hbr⟩:=az (w.heap.size+2);obtain⟨bx,hbx⟩:=az (w.heap.size+1);obtain⟨bb,hbb⟩:=az (w.heap.size);rw[<-hbr]at k3;rw[<-hbx]at k2;rw[<-hbb]at k1;rw[<-hbr,<-hbx,<-hbb];have jL:=h_ (show w.heap.size<=br by omega);have lC:=h_ hbb;have B3:=h_ hb;have V3:=h_ k1;have X3:=h_ k2;have R3:=h_ k3;have HD:=h_ (show bb<bx∧bx<br by omega);clear hz3 hb k1 k2 k3 hbr hbx hbb;have d2:=X3.out.aF (j:=2) (v:=S p.rest) rfl;have d3:=X3.out.aF (j:=3) (v:=.bool p.bS) rfl;have d5:=X3.out.aF (j:=5) (v:=.bool p.bZ) rfl;rcases hk with⟨k1,k2,k3⟩|k1|⟨k1,k2⟩|⟨k1,k2,k3⟩
 ·have he1:(bs p.rest).toList.isEmpty=true:=by rw[yp.out.2 k3];rfl
  rw[k1]at d5;rw[k2]at d3;have dH:=h_ (show R=some {bu with bZ:=true,f:=ff} by rw[HR.out,if_neg (by simp[k1,k2,k3])]);clear k1 k2 k3
  go_upto_region 4 with(first
   |(refine fm rfl (.tmp 2) rfl w bb bv bu (OB.of V3.out (bR lC.out.symm) B3.out) H8.out rfl ?_)
   |(refine aS rfl 30 rfl _ _ (ef _) ?_)
   |(refine fP rfl (.tmp 5) (.tmp 20) rfl bv bu H8.out (Xg Ub.out) rfl rfl rfl ?_;intro w5 hh hb;have I5:=h_ (OB.of (w0:=w) hh B3.out.size (iK B3.out hb));have K5:=h_ (show K3 bb bx br w3.heap.size bv bu p w5 from⟨V3.out.keep hb,X3.out.keep hb,R3.out.keep hb,cV V3.out.lt,cV X3.out.lt,cV R3.out.lt⟩);clear hh hb)
   |fail)
  obtain⟨b,hb⟩:=az (w3.heap.size);have Lc:=h_ (show br<b by rw[hb];exact R3.out.lt);rw[<-hb]at I5 K5 ⊢;clear hb d2 d3 d5;have c8:=K5.out.cb.aF (uF bv bu H8.out).path;have d6:=K5.out.cx.aF (j:=6) (v:=S p.f) rfl
  go_upto_region 5 with(first
   |(go_at_call 30;refine(je bu.path bv _ ((Ub.out.below I5.out.bL).more I5.out.bL.size) (by have:=mW.out;omega)).mono ?_;rintro e w6 ⟨pv,rfl,o6,hb⟩;have O6:=h_ (fE o6);have I6:=h_ (I5.out.below hb);have K6:=h_ (K5.out.below hb);have jM:=h_ (show b<w5.heap.size from I5.out.lt);clear o6 hb)
   |(refine ex rfl 28 (.tmp 24) (.tmp 23) rfl w b 30 (ai bv bu) I6.out 18 pv rfl rfl (gy H8.out (by decide)) dP (bm O6.out) (ai pv bu) ((gw bv bu H8.out).path _ bu.path) ?_;intro w7 i7 t7;have I7:=h_ i7;have K7:=h_ (K6.out.tn t7);have O7:=h_ (t7.row O6.out jM.out);clear i7 t7)
   |fail)
  clear c8 d6;have d6:=K7.out.cx.aF (j:=6) (v:=S p.f) rfl
  go_wp2_with (first
   |(refine ex rfl 4 (.tmp 25) (.const (.bool true)) rfl w b 30 (ai pv bu) I7.out 21 (.bool true) rfl rfl (gy H8.out (by decide)) bU.2.2 rfl (ai pv {bu with bZ:=true}) ((gw pv bu H8.out).bZ _) ?_;intro w8 i8 t8;have I8:=h_ i8;have K8:=h_ (K7.out.tn t8);have O8:=h_ (t8.row O7.out jM.out);have e6:=K8.out.cx.aF (j:=6) (v:=S p.f) rfl;clear i8 t8)
   |(go_at_call 132;refine(Am.out _).mono ?_;rintro e w9 ⟨rfl,hb⟩;have I9:=h_ (I8.out.below hb);have K9:=h_ (K8.out.below hb);have O9:=h_ (own_below O8.out hb);clear hb)
   |(refine ex rfl 9 (.tmp 29) (.tmp 28) rfl w b 30 (ai pv {bu with bZ:=true}) I9.out 22 (S ff) rfl rfl (gy H8.out (by decide)) bU.1 rfl (ai pv {bu with bZ:=true,f:=ff}) ((gw pv {bu with bZ:=true} H8.out).f _) ?_;intro BX rP t10;have nW:=h_ rP;have uN:=h_ (K9.out.tn t10);have qk:=h_ (t10.row O9.out jM.out);clear rP t10)
   |(refine fm rfl (.tmp 5) rfl w b pv {bu with bZ:=true,f:=ff} nW.out H8.out rfl ?_)
   |(refine fU rfl (.tmp 4) (.tmp 30) rfl w br (OB.of uN.out.cr jL.out nW.out.bL) pv {bu with bZ:=true,f:=ff} H8.out (bm qk.out) rfl rfl ?_;intro Uu i11 t11;have yG:=h_ i11;have Zz:=h_ (bh (t11.row qk.out (Nat.lt_trans Lc.out jM.out)) I5.out.bL.size);clear i11 t11)
   |fail)
  rw[dH.out];exact ez (u:={bu with bZ:=true,f:=ff}) results102 H8.out rfl yG.out ⟨pv,rfl,Zz.out,yG.out.bL⟩
 ·rw[k1]at d5
  have dH:=h_ (show R=none by rw[HR.out,if_pos (by simp[k1])])
  go_wp2_with fail
  rw[dH.out];exact⟨rfl,rfl,B3.out⟩
 ·rw[k1]at d5
  rw[k2]at d3;have dH:=h_ (show R=none by rw[HR.out,if_pos (by simp[k2])])
  go_wp2_with fail
  rw[dH.out];exact⟨rfl,rfl,B3.out⟩
 rw[k1]at d5;rw[k2]at d3
 have he1:(bs p.rest).toList.isEmpty=false:=by
  have:=fun h=>k3 (yp.out.1 h)
  simpa using this
 have dH:=h_ (show R=none by rw[HR.out,if_pos (by simp[k3])]);clear k1 k2 k3
 go_wp2_with fail
 rw[dH.out];exact⟨rfl,rfl,B3.out⟩

structure Bs (l:List Bytes):Prop where
 le:l.length<=307200000
 all:∀ x∈l,List.length x<=1024000000
theorem xP(u b:Url):(gv u b).path=b.path:=by unfold gv;split <;>rfl
theorem nM(u b:Url):(gv u b).host=u.host:=by unfold gv;split <;>rfl
theorem Bx(bu:Url)(bv:Value)(p:lH)(w:World)(h8:bu.host.six.length=8)(hbv:Sl w.heap.size w bv (bu.path.map S))(hbs:Bs bu.path)(hr:Rs p.rest)(hq:p.q.length<=307200000)(hf:p.f.length<=307200000)(hE:Env w):Calls prog 103 #[.agg (ai bv bu),.agg (bg p)] w (Cy w (rZ bu p)):=by
 have HST:=h_ (fun W=>pR bu.aH p W (by omega) (by omega));have j0:=h_ (fun W=>gZ bu.aH W);have hsl:=fun W=>lY bu.aH p.rest W (by have:=hr.l;omega);have Uf:=h_ (fun W=>qw bu.aH p.rest W (by have:=hr.l;omega));obtain⟨us,nT⟩:=az (dj bu.aH p);have h8s:us.host.six.length=8:=by rw[nT];rfl
 have hsc:us.aH=bu.aH:=by rw[nT];rfl
 have hup:us.path=[]:=by rw[nT];rfl
 rw[<-nT]at HST;obtain⟨R,hR⟩:=az (rZ bu p);rw[<-hR];unfold rZ at hR;rw[<-nT]at hR;dsimp only at hR;have hle:=BG (eK bu.aH) p.rest;have HE:=h_ hE;have tE:=h_ hr;have H8:=h_ h8;have Ub:=h_ hbv;have BY:=h_ hbs;have Cc:=h_ h8s;have uL:=h_ hsc;have Cd:=h_ hup;have HUS:=h_ nT;generalize ra (eK bu.aH) p.rest=n at *;generalize eK bu.aH=sp at *;have HSL:=h_ hsl;have HR:=h_ hR;obtain⟨t,ht⟩:=az (bs p.rest);have htz:t.size=p.rest.length:=by rw[ht,aM]
 have HT:=h_ ht;have ux:t.extract 1 t.size=bs (p.rest.drop 1):=by rw[ht];exact jy p.rest 1 _ (aM p.rest)
 have qL:t.extract 2 t.size=bs (p.rest.drop 2):=by rw[ht];exact jy p.rest 2 _ (aM p.rest)
 obtain⟨N,hN⟩:=az (t.size);have Re:t.size=N:=hN.symm;rw[Re]at ux qL;have hnN:n<=N:=by omega
 have Zd:=h_ ux;have OG:=h_ qL;have Cr:=h_ hnN;have HTZ:=h_ htz;clear h8 hbv hbs hr hq hf hE hsl h8s hsc hup hR hle nT ht ux qL hN hnN htz;go_enter func103,ntmps103
 go_upto_region 1 with(first
  |(refine aS rfl 30 rfl _ _ (ef _) ?_)
  |fail)
 obtain⟨w3,hw3,hz3,hb,k1,k2,k3⟩:=three w bv bu p
 try rw[show((w.alloc (.cells (ai bv bu) 30)).alloc (.cells (bg p) 68)).heap.size=w.heap.size+2 by simp]
 rw[hw3];clear hw3;obtain⟨br,hbr⟩:=az (w.heap.size+2);obtain⟨bx,hbx⟩:=az (w.heap.size+1);obtain⟨bb,hbb⟩:=az (w.heap.size);rw[<-hbr]at k3;rw[<-hbx]at k2;rw[<-hbb]at k1;rw[<-hbr,<-hbx,<-hbb];have jL:=h_ (show w.heap.size<=br by omega);have lC:=h_ hbb;have B3:=h_ hb;have V3:=h_ k1;have X3:=h_ k2;have R3:=h_ k3;have HD:=h_ (show bb<bx∧bx<br by omega);clear hz3 hb k1 k2 k3 hbr hbx hbb;have c0:=V3.out.aF (uF bv bu H8.out).aH
 go_upto_region 2 with(first
  |(refine lj rfl (.tmp 3) rfl bx p X3.out rfl ?_)
  |(go_at_call 98;refine(HST.out _).mono ?_;rintro e w4 ⟨rfl,hb⟩;have eM:=h_ hb;clear hb)
  |(refine aS rfl 30 rfl _ _ (ef _) ?_)
  |(refine fP rfl (.tmp 5) (.tmp 10) rfl aR us Cc.out rfl rfl rfl rfl ?_;intro w5 hh hb;have I5:=h_ (OB.of (w0:=w) hh (ap B3.out.size eM.out.size) (iK (iK B3.out eM.out) hb));have K5:=h_ (show K3 bb bx br w4.heap.size bv bu p w5 from⟨(V3.out.keep eM.out).keep hb,(X3.out.keep eM.out).keep hb,(R3.out.keep eM.out).keep hb,cV (aQ V3.out.lt eM.out.size),cV (aQ X3.out.lt eM.out.size),cV (aQ R3.out.lt eM.out.size)⟩);have kG:=h_ (show br<w4.heap.size+1 from sC (aQ R3.out.lt eM.out.size));have uJ:=h_ (show w.heap.size<=w4.heap.size+1 from sB (ap B3.out.size eM.out.size));clear hh hb)
  |fail)
 obtain⟨b,hbb⟩:=az (w4.heap.size);rw[<-hbb]at I5 K5 kG uJ ⊢;clear c0 hbb;have c0:=I5.out.aF (uF aR us Cc.out).aH;rw[uL.out]at c0;have d2:=K5.out.cx.aF (j:=2) (v:=.string (bs p.rest)) rfl;rw[<-HT.out]at d2;rw[<-HT.out]at HSL Uf;have HAS:=h_ (fun(k:Nat) W (i:OB w b 30 (ai aR us) W)=>uT w b us (p.rest.drop k) W i Cc.out Cd.out (by have:=tE.out.l;rw[ah];omega) (tE.out.a _ k) (HE.out.below i.bL));have ma:=h_ (show(takeA us bu).host.six.length=8 from H8.out);have Zm:=h_ (show(gv (takeA us bu) bu).host.six.length=8 by rw[nM];exact H8.out);have SC:=h_ (fun(W:World) (v:Value) (x:Url) (i:OB w b 30 (ai v x) W) (h:x.host.six.length=8) (hs:x.aH=bu.aH) (k:K3 bb bx br b bv bu p W)=>(show W.cell? ⟨b,0,none⟩=some (S bu.aH)∧W.cell? ⟨bx,2,none⟩=some (.string t)∧W.cell? ⟨bb,18,none⟩=some bv from⟨by rw[i.aF (uF v x h).aH,hs],by rw[HT.out];exact k.cx.aF rfl,k.cb.aF (uF bv bu H8.out).path⟩));have hcs:(2<=n∧sp=true)∨(2<=n∧sp=false)∨n=1∨n=0:=by cases sp <;>simp <;>omega
 rcases hcs with⟨hn,rfl⟩|⟨hn,rfl⟩|rfl|rfl
 ·have rl:=h_ (show R=kf us (p.rest.drop n) by rw[HR.out,if_pos ⟨hn,rfl⟩])
  have a2H:=h_ (fun W i=>HAS.out n W i);have hni:(2:Int)<=n:=by omega
  clear hn
  go_upto_region 6 with(first
   |(go_at_call 125;refine(HSL.out _).mono ?_;rintro e w6 ⟨rfl,hw⟩;subst hw)
   |(go_at_call 96;refine(j0.out _).mono ?_;rintro e w6 ⟨rfl,hw⟩;subst hw)
   |fail)
  cases hO:kf us (p.rest.drop n)with
  |none =>
   have dH:=h_ (show R=none by rw[rl.out,hO]);have sw:=h_ (fun W i=>(show Calls prog 99 #[.pointer (some ⟨b,0,none⟩),S ((p.rest.drop n))] W fun e w'=>e=Fq∧Below w.heap.size w w'∧Tn b W w' from by have h:=a2H.out W i;rw[hO]at h;exact h));clear hO
   go_wp2_with (first
    |(go_at_call 100;refine(Uf.out _).mono ?_;rintro e w6 ⟨rfl,hw⟩;subst hw)
    |(go_at_call 99;refine(sw.out _ I5.out).mono ?_;rintro e w7 ⟨rfl,hb,_⟩;have B7:=h_ hb;clear hb)
    |fail)
   rw[dH.out];exact⟨rfl,rfl,B7.out⟩
  |some u =>
   have dH:=h_ (show R=some u by rw[rl.out,hO]);have sw:=h_ (fun W i=>(show Calls prog 99 #[.pointer (some ⟨b,0,none⟩),S ((p.rest.drop n))] W fun e w'=>e=.returned (.tuple #[])∧(∃pv,OB w b 30 (ai pv u) w'∧w'.ownsRow W.heap.size 9 1 pv u.path.length (Strs u.path))∧Tn b W w' from by have h:=a2H.out W i;rw[hO]at h;exact h));have U8:=h_ (kH hO);clear hO
   go_upto_region 15 with(first
    |(go_at_call 100;refine(Uf.out _).mono ?_;rintro e w6 ⟨rfl,hw⟩;subst hw)
    |(go_at_call 99;refine(sw.out _ I5.out).mono ?_;rintro e w7 ⟨rfl,⟨pv,i7,o7⟩,t7⟩;have I7:=h_ i7;have O7:=h_ (bh o7 (show b+1<=_ from I5.out.lt));have K7:=h_ (K5.out.tn t7);clear i7 o7 t7)
    |fail)
   go_wp2_with (first
    |(refine fm rfl (.tmp 5) rfl w b pv u I7.out U8.out rfl ?_)
    |(refine fU rfl (.tmp 4) (.tmp 70) rfl w br (OB.of K7.out.cr jL.out I7.out.bL) pv u U8.out (bm O7.out) rfl rfl ?_;intro wZ iZ tZ;have IZ:=h_ iZ;have OZ:=h_ (bh (tZ.row O7.out kG.out) uJ.out);clear iZ tZ)
    |fail)
   rw[dH.out];exact ez (u:=u) results103 U8.out rfl IZ.out ⟨pv,rfl,OZ.out,IZ.out.bL⟩
 ·have rl:=h_ (show R=kf us (p.rest.drop 2) by rw[HR.out,if_neg (by simp),if_pos hn])
  have a2G:=h_ (fun W i=>HAS.out 2 W i);have hni:(2:Int)<=n:=by omega
  have hN2:2<=N:=by have:=Cr.out;omega
  have a80:(2:Int)<=N:=by omega
  have qL:=OG.out;clear hn
  go_upto_region 7 with(first
   |(go_at_call 125;refine(HSL.out _).mono ?_;rintro e w6 ⟨rfl,hw⟩;subst hw)
   |(go_at_call 96;refine(j0.out _).mono ?_;rintro e w6 ⟨rfl,hw⟩;subst hw)
   |fail)
  cases hO:kf us (p.rest.drop 2)with
  |none =>
   have dH:=h_ (show R=none by rw[rl.out,hO]);have sw:=h_ (fun W i=>(show Calls prog 99 #[.pointer (some ⟨b,0,none⟩),S ((p.rest.drop 2))] W fun e w'=>e=Fq∧Below w.heap.size w w'∧Tn b W w' from by have h:=a2G.out W i;rw[hO]at h;exact h));clear hO
   go_wp2_with (first
    |(go_at_call 99;refine(sw.out _ I5.out).mono ?_;rintro e w7 ⟨rfl,hb,_⟩;have B7:=h_ hb;clear hb)
    |fail)
   rw[dH.out];exact⟨rfl,rfl,B7.out⟩
  |some u =>
   have dH:=h_ (show R=some u by rw[rl.out,hO]);have sw:=h_ (fun W i=>(show Calls prog 99 #[.pointer (some ⟨b,0,none⟩),S ((p.rest.drop 2))] W fun e w'=>e=.returned (.tuple #[])∧(∃pv,OB w b 30 (ai pv u) w'∧w'.ownsRow W.heap.size 9 1 pv u.path.length (Strs u.path))∧Tn b W w' from by have h:=a2G.out W i;rw[hO]at h;exact h));have U8:=h_ (kH hO);clear hO
   go_upto_region 15 with(first
    |(go_at_call 99;refine(sw.out _ I5.out).mono ?_;rintro e w7 ⟨rfl,⟨pv,i7,o7⟩,t7⟩;have I7:=h_ i7;have O7:=h_ (bh o7 (show b+1<=_ from I5.out.lt));have K7:=h_ (K5.out.tn t7);clear i7 o7 t7)
    |fail)
   go_wp2_with (first
    |(refine fm rfl (.tmp 5) rfl w b pv u I7.out U8.out rfl ?_)
    |(refine fU rfl (.tmp 4) (.tmp 70) rfl w br (OB.of K7.out.cr jL.out I7.out.bL) pv u U8.out (bm O7.out) rfl rfl ?_;intro wZ iZ tZ;have IZ:=h_ iZ;have OZ:=h_ (bh (tZ.row O7.out kG.out) uJ.out);clear iZ tZ)
    |fail)
   rw[dH.out];exact ez (u:=u) results103 U8.out rfl IZ.out ⟨pv,rfl,OZ.out,IZ.out.bL⟩
 ·obtain⟨PP,Ml⟩:=az (dc bu.aH [] (p.rest.drop 1))
  have dH:=h_ (show R=some {takeA us bu with path:=PP} by rw[HR.out,if_neg (by omega),if_neg (by omega),if_pos rfl,Ml]);obtain⟨s1,hs1⟩:=az (bs (p.rest.drop 1));have mX:=h_ (fun W=>(show Calls prog 129 #[S bu.aH,aR,.string s1] W (gU W 9 (Strs PP))from by rw[Ml,hs1];exact gY bu.aH (p.rest.drop 1) [] aR W Sl.nil (by have:=tE.out.l;rw[ah];omega) (by simp) (by simp)));have hN1:1<=N:=Cr.out;have V4:(1:Int)<=N:=by omega
  have ux:=Zd.out;rw[<-hs1]at ux;clear Ml hs1
  go_upto_region 11 with(first
   |(go_at_call 125;refine(HSL.out _).mono ?_;rintro e w6 ⟨rfl,hw⟩;subst hw)
    |(refine fm rfl (.tmp 2) rfl w bb bv bu (OB.of K5.out.cb (bR lC.out.symm) I5.out.bL) H8.out rfl ?_)
    |(go_at_call 137;refine(nL w b aR bv us bu _ I5.out Cc.out H8.out).mono ?_;rintro e w7 ⟨rfl,i7,t7⟩;have I7:=h_ i7;have K7:=h_ (K5.out.tn t7);have e0:=(SC.out _ _ _ I7.out ma.out uL.out K7.out).2.1;clear i7 t7)
   |fail)
  clear c0 d2;have I8:=h_ (I7.out.below (bH (bz _)));have K8:=h_ (K7.out.below (bH (bz _)));have KZ:=h_ (SC.out _ _ _ I8.out ma.out uL.out K8.out);refine wp_region_held_drew (S:=fun W=>W.cell? ⟨b,0,none⟩=some (S bu.aH)∧W.cell? ⟨bx,2,none⟩=some (.string t)∧W.cell? ⟨bb,18,none⟩=some bv) (by kernel_rfl) (by with_reducible first|exact su.out|exact K0.out|exact KZ.out) (fun hHeld=>?_);refine tq 0 rfl ?_ (fun wS hSw=>?_) ?_;rotate_left
  ·(try dsimp only at hSw);go_simp;first|done|with_reducible rfl
  try simp only[Act.put,cE,cF,cG]
  refine tq 1 rfl ?_ (fun wS hSw=>?_) ?_;rotate_left
  ·(try dsimp only at hSw)
   refine bK 9 (.tmp 55) ?_ b 0 (S bu.aH) _ underlying9 rfl ?_ ?_
   ·rfl
   ·rfl
   exact hSw.1
  try simp only[Act.put,cE,cF,cG]
  refine tq 2 rfl ?_ (fun wS hSw=>?_) ?_;rotate_left
  ·(try dsimp only at hSw);go_simp;first|done|with_reducible rfl
  try simp only[Act.put,cE,cF,cG]
  refine tq 3 rfl ?_ (fun wS hSw=>?_) ?_;rotate_left
  ·(try dsimp only at hSw)
   refine bK 9 (.tmp 57) ?_ bx 2 (.string t) _ underlying9 rfl ?_ ?_
   ·rfl
   ·rfl
   exact hSw.2.1
  try simp only[Act.put,cE,cF,cG]
  refine tq 4 rfl ?_ (fun wS hSw=>?_) ?_;rotate_left
  ·(try dsimp only at hSw);go_simp;first|done|with_reducible rfl
  try simp only[Act.put,cE,cF,cG]
  refine rn 5 (by kernel_rfl) rfl (by rfl) (fun K hK=>?_)
  go_simp
  refine(mX.out _).mono ?_;rintro e w9 ⟨pv,rfl,o9,hb⟩;have O9:=h_ (bh (fE o9) (show b+1<=_ from I8.out.lt));have I9:=h_ (I8.out.below hb);have K9:=h_ (K8.out.below hb);have K0:=h_ (SC.out _ _ _ I9.out ma.out uL.out K9.out);clear o9 hb;refine hK.out _ _ ?_ (fun hHeld=>?_)
  ·with_reducible first|exact su.out|exact K0.out|exact KZ.out
  clear hK K
  try simp only[Act.put,cE,cF,cG]
  refine tq 6 rfl ?_ (fun wS hSw=>?_) ?_;rotate_left
  ·(try dsimp only at hSw);go_simp;first|done|with_reducible rfl
  try simp only[Act.put,cE,cF,cG]
  refine rn 7 (by kernel_rfl) rfl (by rfl) (fun K hK=>?_);refine gL 28 (.tmp 61) (.tmp 60) rfl w b 30 (ai aR (takeA us bu)) I9.out 18 pv rfl rfl (gy ma.out (by decide)) dP (bm O9.out) (ai pv {takeA us bu with path:=PP}) ((gw aR (takeA us bu) ma.out).path _ _) ?_;intro BX rP t10;have nW:=h_ rP;have uN:=h_ (K9.out.tn t10);have qk:=h_ (t10.row O9.out (bO b));have su:=h_ (SC.out _ _ {takeA us bu with path:=PP} nW.out ma.out uL.out uN.out);clear rP t10;refine hK.out _ _ ?_ (fun hHeld=>?_)
  ·with_reducible first|exact su.out|exact K0.out|exact KZ.out
  clear hK K
  try simp only[Act.put]
  refine wpAnyH_done (by kernel_rfl) ?_ _
  go_wp2_with (first
   |(refine fm rfl (.tmp 5) rfl w b pv {takeA us bu with path:=PP} nW.out ma.out rfl ?_)
   |(refine fU rfl (.tmp 4) (.tmp 70) rfl w br (OB.of uN.out.cr jL.out nW.out.bL) pv {takeA us bu with path:=PP} ma.out (bm qk.out) rfl rfl ?_;intro wZ iZ tZ;have IZ:=h_ iZ;have OZ:=h_ (bh (tZ.row qk.out kG.out) uJ.out);clear iZ tZ)
   |fail)
  rw[dH.out];exact ez (u:={takeA us bu with path:=PP}) results103 ma.out rfl IZ.out ⟨pv,rfl,OZ.out,IZ.out.bL⟩
 have hN0:=Cr.out;by_cases hrest:p.rest=[]
 ·have dH:=h_ (show R=some (gv (takeA us bu) bu) by rw[HR.out,if_neg (by omega),if_neg (by omega),if_neg (by omega),if_pos hrest])
  have he1:t.toList.isEmpty=true:=by rw[HT.out,ay,hrest];rfl
  clear hrest hN0
  go_upto_region 14 with(first
   |(go_at_call 125;refine(HSL.out _).mono ?_;rintro e w6 ⟨rfl,hw⟩;subst hw)
   |(refine fm rfl (.tmp 2) rfl w bb bv bu (OB.of K5.out.cb (bR lC.out.symm) I5.out.bL) H8.out rfl ?_)
   |(go_at_call 137;refine(nL w b aR bv us bu _ I5.out Cc.out H8.out).mono ?_;rintro e w7 ⟨rfl,i7,t7⟩;have I7:=h_ i7;have K7:=h_ (K5.out.tn t7);have e0:=(SC.out _ _ _ I7.out ma.out uL.out K7.out).2.1;clear i7 t7)
   |fail)
  clear c0 d2
  go_upto_region 15 with(first
   |(refine fm rfl (.tmp 2) rfl w bb bv bu (OB.of K7.out.cb (bR lC.out.symm) I7.out.bL) H8.out rfl ?_)
   |(go_at_call 130;refine(sd w b aR bv (takeA us bu) bu _ I7.out ma.out H8.out ((Ub.out.below I7.out.bL).more I7.out.bL.size) (by have:=BY.out.le;omega)).mono ?_;rintro e w8 ⟨rfl,pv,i8,o8,t8⟩;have I8:=h_ i8;have O8:=h_ (bh o8 (show b+1<=_ from I7.out.lt));have K8:=h_ (K7.out.tn t8);clear i8 o8 t8)
   |fail)
  go_wp2_with (first
   |(refine fm rfl (.tmp 5) rfl w b pv (gv (takeA us bu) bu) I8.out Zm.out rfl ?_)
   |(refine fU rfl (.tmp 4) (.tmp 70) rfl w br (OB.of K8.out.cr jL.out I8.out.bL) pv (gv (takeA us bu) bu) Zm.out (bm O8.out) rfl rfl ?_;intro wZ iZ tZ;have IZ:=h_ iZ;have OZ:=h_ (bh (tZ.row O8.out kG.out) uJ.out);clear iZ tZ)
   |fail)
  rw[dH.out];exact ez (u:=(gv (takeA us bu) bu)) results103 Zm.out rfl IZ.out ⟨pv,rfl,by rw[xP];exact OZ.out,IZ.out.bL⟩
 obtain⟨PP,Ml⟩:=az (dc bu.aH (cI bu.aH bu.path) p.rest);have dH:=h_ (show R=some {takeA us bu with path:=PP} by rw[HR.out,if_neg (by omega),if_neg (by omega),if_neg (by omega),if_neg hrest,Ml])
 have he1:t.toList.isEmpty=false:=by
  have:¬ t.toList=[]:=by rw[HT.out,ay];exact hrest
  simpa using this
 have mX:=h_ (fun W v (h:Sl W.heap.size W v ((cI bu.aH bu.path).map S))=>(show Calls prog 129 #[S bu.aH,v,.string t] W (gU W 9 (Strs PP))from by rw[Ml,HT.out];exact gY bu.aH p.rest (cI bu.aH bu.path) v W h tE.out.l (by have:=td bu.aH bu.path;have:=BY.out.le;omega) (fun x hx=>BY.out.all x (k5 hx))));clear Ml hrest hN0
 go_upto_region 4 with(first
  |(go_at_call 125;refine(HSL.out _).mono ?_;rintro e w6 ⟨rfl,hw⟩;subst hw)
  |(refine fm rfl (.tmp 2) rfl w bb bv bu (OB.of K5.out.cb (bR lC.out.symm) I5.out.bL) H8.out rfl ?_)
  |(go_at_call 137;refine(nL w b aR bv us bu _ I5.out Cc.out H8.out).mono ?_;rintro e w7 ⟨rfl,i7,t7⟩;have I7:=h_ i7;have K7:=h_ (K5.out.tn t7);have e0:=(SC.out _ _ _ I7.out ma.out uL.out K7.out).2.1;clear i7 t7)
  |fail)
 clear c0 d2;have I8:=h_ (I7.out.below (bH (bz _)));have K8:=h_ (K7.out.below (bH (bz _)));have KZ:=h_ (SC.out _ _ _ I8.out ma.out uL.out K8.out);refine wp_region_held_drew (S:=fun W=>W.cell? ⟨b,0,none⟩=some (S bu.aH)∧W.cell? ⟨bx,2,none⟩=some (.string t)∧W.cell? ⟨bb,18,none⟩=some bv) (by kernel_rfl) (by with_reducible first|exact Aj.out|exact su.out|exact K0.out|exact KZ.out) (fun hHeld=>?_);refine tq 0 rfl ?_ (fun wS hSw=>?_) ?_;rotate_left
 ·(try dsimp only at hSw);go_simp;first|done|with_reducible rfl
 try simp only[Act.put,cE,cF,cG]
 refine tq 1 rfl ?_ (fun wS hSw=>?_) ?_;rotate_left
 ·(try dsimp only at hSw)
  refine bK 9 (.tmp 18) ?_ b 0 (S bu.aH) _ underlying9 rfl ?_ ?_
  ·rfl
  ·rfl
  exact hSw.1
 try simp only[Act.put,cE,cF,cG]
 refine tq 2 rfl ?_ (fun wS hSw=>?_) ?_;rotate_left
 ·(try dsimp only at hSw);go_simp;first|done|with_reducible rfl
 try simp only[Act.put,cE,cF,cG]
 refine tq 3 rfl ?_ (fun wS hSw=>?_) ?_;rotate_left
 ·(try dsimp only at hSw)
  refine bK 9 (.tmp 20) ?_ b 0 (S bu.aH) _ underlying9 rfl ?_ ?_
  ·rfl
  ·rfl
  exact hSw.1
 try simp only[Act.put,cE,cF,cG]
 refine tq 4 rfl ?_ (fun wS hSw=>?_) ?_;rotate_left
 ·(try dsimp only at hSw);go_simp;first|done|with_reducible rfl
 try simp only[Act.put,cE,cF,cG]
 refine tq 5 rfl ?_ (fun wS hSw=>?_) ?_;rotate_left
 ·(try dsimp only at hSw)
  refine bK 28 (.tmp 22) ?_ bb 18 bv _ underlying28 rfl ?_ ?_
  ·rfl
  ·rfl
  exact hSw.2.2
 try simp only[Act.put,cE,cF,cG]
 refine tq 7 rfl ?_ (fun wS hSw=>?_) ?_;rotate_left
 ·(try dsimp only at hSw);go_simp;first|done|with_reducible rfl
 try simp only[Act.put,cE,cF,cG]
 refine tq 8 rfl ?_ (fun wS hSw=>?_) ?_;rotate_left
 ·(try dsimp only at hSw)
  refine bK 9 (.tmp 25) ?_ bx 2 (.string t) _ underlying9 rfl ?_ ?_
  ·rfl
  ·rfl
  exact hSw.2.1
 try simp only[Act.put,cE,cF,cG]
 refine rn 6 (by kernel_rfl) rfl (by rfl) (fun K hK=>?_)
 go_simp
 refine(uh bu.aH bu.path bv _ ((Ub.out.below I8.out.bL).more I8.out.bL.size) (by have:=BY.out.le;omega) BY.out.all).mono ?_;rintro e w9 ⟨sv,rfl,o9,hb⟩;have O9:=h_ (Sl.dM o9);have I9:=h_ (I8.out.below hb);have K9:=h_ (K8.out.below hb);have K0:=h_ (SC.out _ _ _ I9.out ma.out uL.out K9.out);clear o9 hb;refine hK.out _ _ ?_ (fun hHeld=>?_)
 ·with_reducible first|exact Aj.out|exact su.out|exact K0.out|exact KZ.out
 clear hK K
 try simp only[Act.put,cE,cF,cG]
 refine rn 9 (by kernel_rfl) rfl (by rfl) (fun K hK=>?_)
 go_simp
 refine(mX.out _ _ O9.out).mono ?_;rintro e BX ⟨pv,rfl,o10,hb⟩;have qk:=h_ (bh (fE o10) (show b+1<=_ from I9.out.lt));have nW:=h_ (I9.out.below hb);have uN:=h_ (K9.out.below hb);have su:=h_ (SC.out _ _ _ nW.out ma.out uL.out uN.out);clear o10 hb;refine hK.out _ _ ?_ (fun hHeld=>?_)
 ·with_reducible first|exact Aj.out|exact su.out|exact K0.out|exact KZ.out
 clear hK K
 try simp only[Act.put,cE,cF,cG]
 refine tq 10 rfl ?_ (fun wS hSw=>?_) ?_;rotate_left
 ·(try dsimp only at hSw);go_simp;first|done|with_reducible rfl
 try simp only[Act.put,cE,cF,cG]
 refine rn 11 (by kernel_rfl) rfl (by rfl) (fun K hK=>?_);refine gL 28 (.tmp 28) (.tmp 27) rfl w b 30 (ai aR (takeA us bu)) nW.out 18 pv rfl rfl (gy ma.out (by decide)) dP (bm qk.out) (ai pv {takeA us bu with path:=PP}) ((gw aR (takeA us bu) ma.out).path _ _) ?_;intro Uu i11 t11;have yG:=h_ i11;have Vb:=h_ (uN.out.tn t11);have Zz:=h_ (t11.row qk.out (bO b));have Aj:=h_ (SC.out _ _ {takeA us bu with path:=PP} yG.out ma.out uL.out Vb.out);clear i11 t11;refine hK.out _ _ ?_ (fun hHeld=>?_)
 ·with_reducible first|exact Aj.out|exact su.out|exact K0.out|exact KZ.out
 clear hK K
 try simp only[Act.put]
 refine wpAnyH_done (by kernel_rfl) ?_ _
 go_wp2_with (first
  |(refine fm rfl (.tmp 5) rfl w b pv {takeA us bu with path:=PP} yG.out ma.out rfl ?_)
  |(refine fU rfl (.tmp 4) (.tmp 70) rfl w br (OB.of Vb.out.cr jL.out yG.out.bL) pv {takeA us bu with path:=PP} ma.out (bm Zz.out) rfl rfl ?_;intro wZ iZ tZ;have IZ:=h_ iZ;have OZ:=h_ (bh (tZ.row Zz.out kG.out) uJ.out);clear iZ tZ)
  |fail)
 rw[dH.out];exact ez (u:={takeA us bu with path:=PP}) results103 ma.out rfl IZ.out ⟨pv,rfl,OZ.out,IZ.out.bL⟩
end Go.Proofs.YtmndlfglgcioeaaGreatDoor
