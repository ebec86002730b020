/- WlkN WlkO WlkP WlkQ WlkR WlkS: joined. -/
import Derived.Test.YtmndlfglgcioeaaGreatDoorGWlkH
import Derived.Test.YtmndlfglgcioeaaGreatDoorGAthW
set_option maxHeartbeats 40000000
namespace Go.Proofs.YtmndlfglgcioeaaGreatDoor
open Tryz
open Go.RowKit
set_option maxRecDepth 10000
abbrev AU:Ending:=.panicked [{v:=.iface 155 (.agg #[]),recovered:=false}]
def AZ (l:Bytes):Prop:=∀ s u p n q,Fu l=some (s,u,p)->IS s=some (n,q)->Short n
theorem F8 {l:Bytes} (h:l.length<=1048576):AZ l:=fun s u p n q h1 h2=>Ay (by have:=DI h1;have:=(Dd h2).1;omega)
def ry (u:Url) (a:oL):Url:={u with usr:=a.user,ed:=a.pass,host:=a.host,aZ:=a.aZ,port:=a.port}
theorem l5 (sp:Bool) (s:Bytes):(dA sp s).1.length<=s.length∧(dA sp s).2.length<=s.length:=by
 unfold dA
 have h:=congrArg List.length (ft (p:=fun c=>!kE sp c) (l:=s))
 rw[af]at h
 dsimp only
 omega
theorem Pf (u:Url) (s:Bytes) (hp:u.path=[]):iI u s=match jk u.aC (dA (ep u.aC) s).1 with
  |none=>none
  |some a=>some {ry u a with path:=if ep u.aC=true∨(dA (ep u.aC) s).2 ≠ []then fU u.aC (dA (ep u.aC) s).2 else []}:=by
 unfold iI
 rw[hp]
 rfl
def Ty (w0:World) (b:Nat) (w:World):Option Url->Ending->World->Prop
 |none,e,w'=>e=AU∧Below w0.heap.size w0 w'∧Tn b w w'
 |some u,e,w'=>e=.returned (.tuple #[])∧(∃pv,OB w0 b 30 (ah pv u) w'∧w'.ownsRow w.heap.size 9 1 pv u.path.length (Strs u.path))∧Tn b w w'
theorem aU {w:World} {base base' e n:Nat} {v:Value} {xs:List Value} (h:w.ownsRow base e 1 v n xs) (hb:base'<=base):w.ownsRow base' e 1 v n xs:=by
 refine⟨h.1,?_⟩
 rcases h.2 with h0|⟨g,cap,cur,e1,hg,hh,hr⟩
 ·exact .inl h0
 exact .inr ⟨g,cap,cur,e1,aq hb hg,hh,hr⟩
theorem eu {w:World} {base e:Nat} {v:Value} {l:List Bytes} (h:w.ownsRow base e 1 v (Strs l).length (Strs l)):w.ownsRow base e 1 v l.length (Strs l):=by
 rw[aj]at h
 exact h
theorem Fg {w:World} {base e:Nat}:w.ownsRow base e 1 aD 0 []:=⟨rfl,.inl ⟨rfl,rfl⟩⟩
theorem rN (w0:World) (b:Nat) (u:Url) (s:Bytes) (w:World) (i:OB w0 b 30 (ah aD u) w) (h8:u.host.six.length=8) (hp:u.path=[]) (hs:s.length<=307200000) (hA:AZ (dA (ep u.aC) s).1) (hE:Env w) :
  Calls prog 99 #[.pointer (some ⟨b,0,none⟩),.string (bs s)] w (Ty w0 b w (iI u s)):=by
 obtain⟨R,hR⟩:=ap (iI u s)
 rw[<-hR]
 rw[Pf u s hp]at hR
 have hsp:=fun W=>fq u.aC W
 have kK:=fun W=>yX s (ep u.aC) W (by omega)
 have hcl:=l5 (ep u.aC) s
 have hap:=fun(W:World) (hW:Below w.heap.size w W)=>Bo u.aC (dA (ep u.aC) s).1 W (by omega) hA (hE.below hW)
 have hpo:=fun W=>tK u.aC (dA (ep u.aC) s).2 W (by omega)
 have Oo:=@ath_six u.aC (dA (ep u.aC) s).1
 generalize ep u.aC=sp at *
 generalize dA sp s=C at *
 obtain⟨c1,c2⟩:=C
 simp only at hR kK hcl hap hpo Oo
 have UU:=h_ (qP aD u h8)
 have H8:=h_ h8
 have II:=h_ i
 obtain⟨sc,hsc⟩:=ap (bs u.aC)
 obtain⟨t,ht⟩:=ap (bs s)
 obtain⟨k1,hk1⟩:=ap (bs c1)
 obtain⟨k2,hk2⟩:=ap (bs c2)
 rw[<-hsc]at hsp hap hpo
 rw[<-ht]at kK ⊢
 rw[<-hk1]at hap
 rw[<-hk2]at hpo
 have jO:=h_ (show ∀W,Calls prog 133 #[.string t,.bool sp] W fun e w'=>e=.returned (.tuple #[.string k1,.string k2])∧Below W.heap.size W w' from by rw[hk1,hk2];exact kK)
 have gF:=h_ hsp
 have FP:=h_ hpo
 have hc0:∀ {W:World} {cs:Array Value} {v:Value} {x:Url},OB w0 b 30 (ah v x) W->x.host.six.length=8->x.aC=u.aC->W.cell? ⟨b,0,none⟩=some (.string sc):=fun {W cs v x} h1 h2 h3=>by
  rw[h1.ak (qP v x h2).aC,h3,hsc]
 have P4:k2.toList=[] ↔ c2=[]:=by rw[hk2,au]
 have Bc:=h_ (fun(W:World) (v:Value) (x:Url) h1 h2 h3=>@hc0 W #[] v x h1 h2 h3)
 have HKE:=h_ P4
 have HR:=h_ hR
 have hbw:=i.lt
 clear hc0 P4 hR kK hsp hpo hsc ht hk1 hk2 hcl hp hs hA h8 i
 cases Xb:jk u.aC c1 with
 |none =>
  rw[Xb]at hap
  have HAP:=h_ (show ∀W,Below w.heap.size w W->Calls prog 134 #[.string sc,.string k1] W fun e w'=>e=.returned (.tuple #[.agg (bD A0),.bool false])∧Below W.heap.size W w' from hap)
  have gW:=h_ (show R=none by rw[HR.out,Xb])
  clear hap Xb Oo hE FP HKE
  have c0:=Bc.out _ _ _ II.out H8.out rfl
  go_enter func99,ntmps99
  go_upto_region 2 with(first
   |(go_at_call 96;refine(gF.out _).mono ?_;rintro e w2 ⟨rfl,hw⟩;subst hw)
   |(go_at_call 133;refine(jO.out _).mono ?_;rintro e w3 ⟨rfl,hb⟩;have HB3:=h_ hb;have c3:=Bc.out _ _ _ (II.out.below hb) H8.out rfl;clear hb)
   |fail)
  go_upto_region 3 with(first
   |(go_at_call 134;refine(HAP.out _ HB3.out).mono ?_;rintro e w4 ⟨rfl,hb⟩;have FK:=h_ (fJ HB3.out hb);clear hb)
   |(refine aE rfl 151 rfl _ _ (allA _) ?_)
   |(refine NH rfl (.tmp 7) (.tmp 27) rfl A0 rfl rfl rfl rfl ?_;intro w5 hh hb;have fK:=h_ (fJ FK.out hb);clear hh hb)
   |fail)
  go_wp2_with fail
  refine⟨rfl,?_⟩
  rw[gW.out]
  exact⟨rfl,(II.out.below fK.out).bq,Tn.of_below fK.out⟩
 |some A =>
  rw[Xb]at hap Oo
  have A8:=h_ (show A.host.six.length=8 from Oo)
  have AC:=h_ (Ga A A8.out)
  have HI:=h_ (show(prog.info? 27).map (·.size)=some (aW A.host).length by rw[gR];simp[aW,A8.out])
  have HAP:=h_ (show ∀W,Below w.heap.size w W->Calls prog 134 #[.string sc,.string k1] W fun e w'=>e=.returned (.tuple #[.agg (bD A),.bool true])∧Below W.heap.size W w' from hap)
  have qU:=h_ (show R=some {ry u A with path:=if sp=true∨c2 ≠ []then fU u.aC c2 else []} by rw[HR.out,Xb])
  obtain⟨PP,GH⟩:=ap (fU u.aC c2)
  rw[<-GH]at qU FP
  clear hap Xb Oo hE HR GH
  have c0:=Bc.out _ _ _ II.out H8.out rfl
  go_enter func99,ntmps99
  go_upto_region 2 with(first
   |(go_at_call 96;refine(gF.out _).mono ?_;rintro e w2 ⟨rfl,hw⟩;subst hw)
   |(go_at_call 133;refine(jO.out _).mono ?_;rintro e w3 ⟨rfl,hb⟩;have HB3:=h_ hb;have c3:=Bc.out _ _ _ (II.out.below hb) H8.out rfl;clear hb)
   |fail)
  go_upto_region 3 with(first
   |(go_at_call 134;refine(HAP.out _ HB3.out).mono ?_;rintro e w4 ⟨rfl,hb⟩;have FK:=h_ (fJ HB3.out hb);clear hb)
   |(refine aE rfl 151 rfl _ _ (allA _) ?_)
   |(refine NH rfl (.tmp 7) (.tmp 27) rfl A A8.out rfl rfl rfl ?_;intro w5 hh hb;have K5:=h_ hh;have fK:=h_ (fJ FK.out hb);have HBT:=h_ (show b<w4.heap.size from aP hbw FK.out.size);clear hh hb)
   |fail)
  obtain⟨bt,hbt⟩:=ap (w4.heap.size)
  rw[<-hbt]at K5 HBT ⊢
  have hne:bt≠b:=by have:=HBT.out;omega
  have I3:=h_ (II.out.below fK.out)
  have T3:=h_ (Tn.of_below (b:=b) fK.out)
  clear hbt c0 c3
  go_upto_region 5 with fail
  have I4:=h_ (I3.out.below (aJ (aG _)))
  have C4:=h_ (K5.out.keep (aJ (aG _)))
  have C3:=K5
  have T4:=h_ (T3.out.below (aJ (aG _)))
  refine wp_region_held_drew (S:=fun W=>CB W bt 151 (bD A)) (by kernel_rfl) (by first|exact C3.out.keep (aJ (aG _))|exact C9.out|exact C8.out|exact C7.out|exact C6.out|exact C5.out) (fun hHeld=>?_)
  refine tq 0 rfl ?_ (fun wS hSw=>?_) ?_
  rotate_left
  ·(try dsimp only at hSw);go_simp;first|done|with_reducible rfl
  try simp only[Act.put,aK,aL,aM]
  refine tq 1 rfl ?_ (fun wS hSw=>?_) ?_
  rotate_left
  ·(try dsimp only at hSw);go_simp;first|done|with_reducible rfl
  try simp only[Act.put,aK,aL,aM]
  refine tq 2 rfl ?_ (fun wS hSw=>?_) ?_
  rotate_left
  ·(try dsimp only at hSw);go_simp;first|done|with_reducible rfl
  try simp only[Act.put,aK,aL,aM]
  refine tq 3 rfl ?_ (fun wS hSw=>?_) ?_
  rotate_left
  ·(try dsimp only at hSw);go_simp;first|done|with_reducible rfl
  try simp only[Act.put,aK,aL,aM]
  refine tq 4 rfl ?_ (fun wS hSw=>?_) ?_
  rotate_left
  ·(try dsimp only at hSw);go_simp;first|done|with_reducible rfl
  try simp only[Act.put,aK,aL,aM]
  refine tq 5 rfl ?_ (fun wS hSw=>?_) ?_
  rotate_left
  ·(try dsimp only at hSw);go_simp;first|done|with_reducible rfl
  try simp only[Act.put,aK,aL,aM]
  refine tq 6 rfl ?_ (fun wS hSw=>?_) ?_
  rotate_left
  ·(try dsimp only at hSw)
   refine aF 9 (.tmp 38) ?_ bt 0 (S A.user) _ underlying9 rfl ?_ ?_
   ·rfl
   ·rfl
   exact hSw.ak rfl
  try simp only[Act.put,aK,aL,aM]
  refine tq 7 rfl ?_ (fun wS hSw=>?_) ?_
  rotate_left
  ·(try dsimp only at hSw);go_simp;first|done|with_reducible rfl
  try simp only[Act.put,aK,aL,aM]
  refine tq 8 rfl ?_ (fun wS hSw=>?_) ?_
  rotate_left
  ·(try dsimp only at hSw)
   refine aF 9 (.tmp 40) ?_ bt 1 (S A.pass) _ underlying9 rfl ?_ ?_
   ·rfl
   ·rfl
   exact hSw.ak rfl
  try simp only[Act.put,aK,aL,aM]
  refine tq 9 rfl ?_ (fun wS hSw=>?_) ?_
  rotate_left
  ·(try dsimp only at hSw);go_simp;first|done|with_reducible rfl
  try simp only[Act.put,aK,aL,aM]
  refine tq 10 rfl ?_ (fun wS hSw=>?_) ?_
  rotate_left
  ·(try dsimp only at hSw)
   refine dM 27 (.tmp 42) ?_ bt 2 (aW A.host) _ underlying27 rfl HI.out ?_ ?_
   ·rfl
   ·rfl
   exact hSw.range (Ph A)
  try simp only[Act.put,aK,aL,aM]
  refine tq 11 rfl ?_ (fun wS hSw=>?_) ?_
  rotate_left
  ·(try dsimp only at hSw);go_simp;first|done|with_reducible rfl
  try simp only[Act.put,aK,aL,aM]
  refine tq 12 rfl ?_ (fun wS hSw=>?_) ?_
  rotate_left
  ·(try dsimp only at hSw)
   refine aF 4 (.tmp 44) ?_ bt 13 (.bool A.aZ) _ underlying4 rfl ?_ ?_
   ·rfl
   ·rfl
   exact hSw.ak AC.out.2.2.1
  try simp only[Act.put,aK,aL,aM]
  refine tq 13 rfl ?_ (fun wS hSw=>?_) ?_
  rotate_left
  ·(try dsimp only at hSw);go_simp;first|done|with_reducible rfl
  try simp only[Act.put,aK,aL,aM]
  refine tq 14 rfl ?_ (fun wS hSw=>?_) ?_
  rotate_left
  ·(try dsimp only at hSw)
   refine aF 3 (.tmp 46) ?_ bt 14 (.int .i64 A.port) _ underlying3 rfl ?_ ?_
   ·rfl
   ·rfl
   exact hSw.ak AC.out.2.2.2.1
  try simp only[Act.put,aK,aL,aM]
  refine tq 15 rfl ?_ (fun wS hSw=>?_) ?_
  rotate_left
  ·(try dsimp only at hSw);go_simp;first|done|with_reducible rfl
  try simp only[Act.put,aK,aL,aM]
  refine tq 16 rfl ?_ (fun wS hSw=>?_) ?_
  rotate_left
  ·(try dsimp only at hSw);go_simp;first|done|with_reducible rfl
  try simp only[Act.put,aK,aL,aM]
  refine rn 17 (by kernel_rfl) rfl (by rfl) (fun K hK=>?_)
  refine fa 9 (.tmp 49) (.tmp 39) rfl w0 b 30 (ah aD u) I4.out 1 (S A.user) rfl rfl (eX H8.out (by decide)) bF.1 rfl (ah aD {u with usr:=A.user}) ((eW aD u H8.out).usr _) ?_
  intro x5 i1 t1
  have I5:=h_ i1;have C5:=h_ (t1.cb C4.out hne);have T5:=h_ (T4.out.trans t1)
  clear i1 t1
  refine hK.out _ _ ?_ (fun hHeld=>?_)
  ·first|exact C3.out.keep (aJ (aG _))|exact C9.out|exact C8.out|exact C7.out|exact C6.out|exact C5.out
  clear hK K
  try simp only[Act.put]
  refine tq 18 rfl ?_ (fun wS hSw=>?_) ?_
  rotate_left
  ·(try dsimp only at hSw);go_simp;first|done|with_reducible rfl
  try simp only[Act.put,aK,aL,aM]
  refine tq 19 rfl ?_ (fun wS hSw=>?_) ?_
  rotate_left
  ·(try dsimp only at hSw);go_simp;first|done|with_reducible rfl
  try simp only[Act.put,aK,aL,aM]
  refine rn 20 (by kernel_rfl) rfl (by rfl) (fun K hK=>?_)
  refine fa 9 (.tmp 51) (.tmp 41) rfl w0 b 30 (ah aD {u with usr:=A.user}) I5.out 2 (S A.pass) rfl rfl (eX H8.out (by decide)) bF.1 rfl (ah aD {u with usr:=A.user,ed:=A.pass}) ((eW aD {u with usr:=A.user} H8.out).ed _) ?_
  intro x6 i1 t1
  have I6:=h_ i1;have C6:=h_ (t1.cb C5.out hne);have T6:=h_ (T5.out.trans t1)
  clear i1 t1
  refine hK.out _ _ ?_ (fun hHeld=>?_)
  ·first|exact C3.out.keep (aJ (aG _))|exact C9.out|exact C8.out|exact C7.out|exact C6.out|exact C5.out
  clear hK K
  try simp only[Act.put]
  refine tq 21 rfl ?_ (fun wS hSw=>?_) ?_
  rotate_left
  ·(try dsimp only at hSw);go_simp;first|done|with_reducible rfl
  try simp only[Act.put,aK,aL,aM]
  refine tq 22 rfl ?_ (fun wS hSw=>?_) ?_
  rotate_left
  ·(try dsimp only at hSw);go_simp;first|done|with_reducible rfl
  try simp only[Act.put,aK,aL,aM]
  refine rn 23 (by kernel_rfl) rfl (by rfl) (fun K hK=>?_)
  refine g9 27 (.tmp 53) (.tmp 43) rfl w0 b 30 (ah aD {u with usr:=A.user,ed:=A.pass}) I6.out 3 (aW A.host) rfl rfl (wP H8.out A8.out) HI.out iN (ah aD {u with usr:=A.user,ed:=A.pass,host:=A.host}) (qQ aD {u with usr:=A.user,ed:=A.pass} A.host A8.out H8.out) ?_
  intro x7 i1 t1
  have I7:=h_ i1;have C7:=h_ (t1.cb C6.out hne);have T7:=h_ (T6.out.trans t1)
  clear i1 t1
  refine hK.out _ _ ?_ (fun hHeld=>?_)
  ·first|exact C3.out.keep (aJ (aG _))|exact C9.out|exact C8.out|exact C7.out|exact C6.out|exact C5.out
  clear hK K
  try simp only[Act.put]
  refine tq 24 rfl ?_ (fun wS hSw=>?_) ?_
  rotate_left
  ·(try dsimp only at hSw);go_simp;first|done|with_reducible rfl
  try simp only[Act.put,aK,aL,aM]
  refine tq 25 rfl ?_ (fun wS hSw=>?_) ?_
  rotate_left
  ·(try dsimp only at hSw);go_simp;first|done|with_reducible rfl
  try simp only[Act.put,aK,aL,aM]
  refine rn 26 (by kernel_rfl) rfl (by rfl) (fun K hK=>?_)
  refine fa 4 (.tmp 55) (.tmp 45) rfl w0 b 30 (ah aD {u with usr:=A.user,ed:=A.pass,host:=A.host}) I7.out 14 (.bool A.aZ) rfl rfl (eX A8.out (by decide)) bF.2.2 rfl (ah aD {u with usr:=A.user,ed:=A.pass,host:=A.host,aZ:=A.aZ}) ((eW aD {u with usr:=A.user,ed:=A.pass,host:=A.host} A8.out).aZ _) ?_
  intro x8 i1 t1
  have I8:=h_ i1;have C8:=h_ (t1.cb C7.out hne);have T8:=h_ (T7.out.trans t1)
  clear i1 t1
  refine hK.out _ _ ?_ (fun hHeld=>?_)
  ·first|exact C3.out.keep (aJ (aG _))|exact C9.out|exact C8.out|exact C7.out|exact C6.out|exact C5.out
  clear hK K
  try simp only[Act.put]
  refine tq 27 rfl ?_ (fun wS hSw=>?_) ?_
  rotate_left
  ·(try dsimp only at hSw);go_simp;first|done|with_reducible rfl
  try simp only[Act.put,aK,aL,aM]
  refine tq 28 rfl ?_ (fun wS hSw=>?_) ?_
  rotate_left
  ·(try dsimp only at hSw);go_simp;first|done|with_reducible rfl
  try simp only[Act.put,aK,aL,aM]
  refine rn 29 (by kernel_rfl) rfl (by rfl) (fun K hK=>?_)
  refine fa 3 (.tmp 57) (.tmp 47) rfl w0 b 30 (ah aD {u with usr:=A.user,ed:=A.pass,host:=A.host,aZ:=A.aZ}) I8.out 15 (.int .i64 A.port) rfl rfl (eX A8.out (by decide)) bF.2.1 rfl (ah aD (ry u A)) ((eW aD {u with usr:=A.user,ed:=A.pass,host:=A.host,aZ:=A.aZ} A8.out).port _) ?_
  intro x9 i1 t1
  have I9:=h_ i1;have C9:=h_ (t1.cb C8.out hne);have T9:=h_ (T8.out.trans t1)
  clear i1 t1
  refine hK.out _ _ ?_ (fun hHeld=>?_)
  ·first|exact C3.out.keep (aJ (aG _))|exact C9.out|exact C8.out|exact C7.out|exact C6.out|exact C5.out
  clear hK K
  try simp only[Act.put]
  refine wpAnyH_done (by kernel_rfl) ?_ _
  have hc1:(sp=true)∨(sp=false∧¬ k2.toList=[])∨(sp=false∧k2.toList=[]):=by cases sp <;>by_cases h:k2.toList=[] <;>simp[h]
  rcases hc1 with rfl|⟨rfl,he⟩|⟨rfl,he⟩
  ·have HU:=h_ (show R=some {ry u A with path:=PP} by rw[qU.out];simp)
   have c9:=Bc.out _ _ _ I9.out A8.out rfl
   go_wp2_with (first
    |(go_at_call 135;refine(FP.out _).mono ?_;rintro e wV ⟨v10,rfl,ho,hb⟩;have X1:=h_ ho;have lJ:=h_ (I9.out.below hb);have Uo:=h_ (T9.out.below hb);have TC:=h_ (show b<x9.heap.size from I9.out.lt);clear ho hb)
    |(refine dJ rfl 28 (.tmp 71) (.tmp 69) rfl w0 b 30 (ah aD (ry u A)) lJ.out 18 v10 rfl rfl (eX A8.out (by decide)) dy (aS X1.out) (ah v10 {ry u A with path:=PP}) ((eW aD (ry u A) A8.out).path _ _) ?_;intro Ow i1 t1;have u9:=h_ i1;have T11:=h_ (Uo.out.trans t1);have R11:=h_ (t1.row X1.out TC.out);clear i1 t1)
    |fail)
   go_end0
   rw[HU.out]
   exact⟨rfl,⟨v10,u9.out,aU (eu R11.out) T9.out.s⟩,T11.out⟩
  ·have HU:=h_ (show R=some {ry u A with path:=PP} by rw[qU.out,if_pos (.inr fun h=>he (HKE.out.2 h))])
   have he1:k2.toList.isEmpty=false:=by simpa using he
   have c9:=Bc.out _ _ _ I9.out A8.out rfl
   go_wp2_with (first
    |(go_at_call 135;refine(FP.out _).mono ?_;rintro e wV ⟨v10,rfl,ho,hb⟩;have X1:=h_ ho;have lJ:=h_ (I9.out.below hb);have Uo:=h_ (T9.out.below hb);have TC:=h_ (show b<x9.heap.size from I9.out.lt);clear ho hb)
    |(refine dJ rfl 28 (.tmp 71) (.tmp 69) rfl w0 b 30 (ah aD (ry u A)) lJ.out 18 v10 rfl rfl (eX A8.out (by decide)) dy (aS X1.out) (ah v10 {ry u A with path:=PP}) ((eW aD (ry u A) A8.out).path _ _) ?_;intro Ow i1 t1;have u9:=h_ i1;have T11:=h_ (Uo.out.trans t1);have R11:=h_ (t1.row X1.out TC.out);clear i1 t1)
    |fail)
   go_end0
   rw[HU.out]
   exact⟨rfl,⟨v10,u9.out,aU (eu R11.out) T9.out.s⟩,T11.out⟩
  have HU:=h_ (show R=some {ry u A with path:=[]} by rw[qU.out,if_neg (by rintro(h|h);exact(by simp at h);exact h (HKE.out.1 he))])
  have he1:k2.toList.isEmpty=true:=by rw[he];rfl
  go_wp2_with fail
  go_end0
  rw[HU.out]
  exact⟨rfl,⟨aD,I9.out,Fg⟩,T9.out⟩

theorem dL {f:Func} {k:Nat} (hf:f.results=#[.cell k 30]) {tmps:Array Value} {w0 w2:World} {b:Nat} {pv:Value} {u:Url} {Post:Ending->World->Prop} (h8:u.host.six.length=8) (hk:tmps.getD k undef=.pointer (some ⟨b,0,none⟩))
  (i:OB w0 b 30 (ah pv u) w2) (hP:Post (.returned (.agg (ah pv u))) w2) :
  bodyPost prog f Post Exit.ret {tmps:=tmps,defers:=[]} w2:=by
 have h2':tmps[k]?.getD undef=.pointer (some ⟨b,0,none⟩):=by simpa using hk
 have hl:=i.load (P:=prog) 30 _ underlying30 rfl (by rw[eL h8];exact dq)
 refine bodyPost_ret (v:=.agg (ah pv u)) ?_ rfl hP
 simp[results,hf,asAddr,h2',hl]
theorem lz {pv yG:Value} {u u2:Url} (h:u.host.six.length=8) (h2:u2.host.six.length=8):rF (ah pv u) 0 (bH yG u2)=ah yG u2:=ll _ _ (by rw[gg h,gg h2])
theorem YE (sc:Bytes) (hq:Bool) (q:Bytes) (hf:Bool) (f:Bytes):∀ w,(Instr.build 30 #[(0,S sc),(9,.bool hq),(10,S q),(11,.bool hf),(12,S f)]).run prog w=.ok (.agg (ah aD {U0 with aC:=sc,bP:=hq,q:=q,bS:=hf,f:=f})) w:=fun w=>by kernel_rfl
theorem sk {o:Oper} {a:Act} {w:World} (x1 x2 x3 x4 x5:Operand) (ho:o.op=.build 30 #[(0,x1),(9,x2),(10,x3),(11,x4),(12,x5)]) (sc:Bytes) (hq:Bool) (q:Bytes) (hf:Bool) (f:Bytes)
  (h1:a.eval x1=S sc) (h2:a.eval x2=.bool hq) (h3:a.eval x3=S q) (h4:a.eval x4=.bool hf) (h5:a.eval x5=S f):(execOp a.eval o).run prog w=.ok (.value (.agg (ah aD {U0 with aC:=sc,bP:=hq,q:=q,bS:=hf,f:=f}))) w:=by
 have e:=YE sc hq q hf f w
 unfold execOp
 simp only[ho,Sem.run_bind,Sem.run_pure,Result.andThen_ok,dj,cO,eC,h1,h2,h3,h4,h5,e]
theorem m9 (aC:Bytes) (p:jP) (w:World) (hq:p.q.length<=1024000000) (hf:p.f.length<=1024000000):Calls prog 98 #[.string (bs aC),.agg (aT p)] w fun e w'=>e=.returned (.agg (ah aD (cQ aC p)))∧Below w.heap.size w w':=by
 have gF:=h_ (fun W=>fq aC W)
 have HF:=h_ (fun W=>eo 1 p.f W hf)
 have H2:=h_ (fun W=>eo 2 p.q W hq)
 have H3:=h_ (fun W=>eo 3 p.q W hq)
 obtain⟨R,hR⟩:=ap (cQ aC p)
 rw[<-hR]
 unfold cQ at hR
 have hc:ep aC=true∨ep aC=false:=by cases ep aC <;>simp
 generalize ep aC=sp at *
 have HR:=h_ hR
 clear hR hq hf
 go_enter func98,ntmps98
 go_upto_region 1 with(first
  |(refine aE rfl 30 rfl _ _ (cD _) ?_)
  |fail)
 have hx:=CB.new w 68 (aT p)
 have hb:=(Below.refl w.heap.size w).alloc (ae _) (.cells (aT p) 68)
 obtain⟨w2,hw2⟩:=ap (w.alloc (.cells (aT p) 68))
 have hz:w2.heap.size=w.heap.size+1:=by rw[hw2];simp
 rw[<-hw2]at hx hb ⊢
 have hu:=OB.fresh w2 30 (ah aD U0)
 have hb2:=(Below.refl w2.heap.size w2).alloc (ae _) (.cells (ah aD U0) 30)
 obtain⟨w3,hw3⟩:=ap (w2.alloc (.cells (ah aD U0) 30))
 rw[<-hw3]at hu hb2 ⊢
 rw[hz]at hu
 try rw[hz]
 have hx3:=hx.keep hb2
 have hu3:OB w (w.heap.size+1) 30 (ah aD U0) w3:=⟨hu.a,by omega,fJ hb hb2⟩
 obtain⟨bx,hbx⟩:=ap (w.heap.size)
 obtain⟨bu,hbu⟩:=ap (w.heap.size+1)
 rw[<-hbu]at hu3 ⊢
 rw[<-hbx]at hx3 ⊢
 have hne:bx≠bu:=by omega
 have C3:=h_ hx3
 have I3:=h_ hu3
 clear hx hb hw2 hz hu hb2 hw3 hx3 hu3 hbx hbu
 rcases hc with rfl|rfl
 ·go_upto_region 4 with(first
   |(go_at_call 96;refine(gF.out _).mono ?_;rintro e w4 ⟨rfl,hw⟩;subst hw)
   |fail)
  have HRR:=h_ (show R={U0 with aC:=aC,bP:=p.bP,q:=df 3 p.q,bS:=p.bS,f:=df 1 p.f} by rw[HR.out];rfl)
  have HQ:=H3
  refine wp_region_held_drew (S:=fun W=>CB W bx 68 (aT p)) (by kernel_rfl) (by first|exact C3.out.keep (aJ (aG _))|exact C6.out|exact C5.out|exact C4.out) (fun hHeld=>?_)
  refine tq 0 rfl ?_ (fun wS hSw=>?_) ?_
  rotate_left
  ·(try dsimp only at hSw);go_simp;first|done|with_reducible rfl
  try simp only[Act.put,aK,aL,aM]
  refine tq 1 rfl ?_ (fun wS hSw=>?_) ?_
  rotate_left
  ·(try dsimp only at hSw);go_simp;first|done|with_reducible rfl
  try simp only[Act.put,aK,aL,aM]
  refine tq 2 rfl ?_ (fun wS hSw=>?_) ?_
  rotate_left
  ·(try dsimp only at hSw)
   refine aF 4 (.tmp 9) ?_ bx 3 (.bool p.bP) _ underlying4 rfl ?_ ?_
   ·rfl
   ·rfl
   exact hSw.ak rfl
  try simp only[Act.put,aK,aL,aM]
  refine tq 3 rfl ?_ (fun wS hSw=>?_) ?_
  rotate_left
  ·(try dsimp only at hSw);go_simp;first|done|with_reducible rfl
  try simp only[Act.put,aK,aL,aM]
  refine tq 4 rfl ?_ (fun wS hSw=>?_) ?_
  rotate_left
  ·(try dsimp only at hSw)
   refine aF 9 (.tmp 11) ?_ bx 4 (S p.q) _ underlying9 rfl ?_ ?_
   ·rfl
   ·rfl
   exact hSw.ak rfl
  try simp only[Act.put,aK,aL,aM]
  refine tq 5 rfl ?_ (fun wS hSw=>?_) ?_
  rotate_left
  ·(try dsimp only at hSw);go_simp;first|done|with_reducible rfl
  try simp only[Act.put,aK,aL,aM]
  refine tq 7 rfl ?_ (fun wS hSw=>?_) ?_
  rotate_left
  ·(try dsimp only at hSw);go_simp;first|done|with_reducible rfl
  try simp only[Act.put,aK,aL,aM]
  refine tq 8 rfl ?_ (fun wS hSw=>?_) ?_
  rotate_left
  ·(try dsimp only at hSw)
   refine aF 4 (.tmp 15) ?_ bx 5 (.bool p.bS) _ underlying4 rfl ?_ ?_
   ·rfl
   ·rfl
   exact hSw.ak rfl
  try simp only[Act.put,aK,aL,aM]
  refine tq 9 rfl ?_ (fun wS hSw=>?_) ?_
  rotate_left
  ·(try dsimp only at hSw);go_simp;first|done|with_reducible rfl
  try simp only[Act.put,aK,aL,aM]
  refine tq 10 rfl ?_ (fun wS hSw=>?_) ?_
  rotate_left
  ·(try dsimp only at hSw)
   refine aF 9 (.tmp 17) ?_ bx 6 (S p.f) _ underlying9 rfl ?_ ?_
   ·rfl
   ·rfl
   exact hSw.ak rfl
  try simp only[Act.put,aK,aL,aM]
  refine rn 6 (by kernel_rfl) rfl (by rfl) (fun K hK=>?_)
  go_simp
  refine(HQ.out _).mono ?_
  rintro e w5 ⟨rfl,hb5⟩
  have C4:=h_ ((C3.out.keep (aJ (aG _))).keep hb5);have I4:=h_ ((I3.out.below (aJ (aG _))).below hb5)
  clear hb5
  refine hK.out _ _ ?_ (fun hHeld=>?_)
  ·first|exact C3.out.keep (aJ (aG _))|exact C6.out|exact C5.out|exact C4.out
  clear hK K
  try simp only[Act.put,aK,aL,aM]
  refine rn 11 (by kernel_rfl) rfl (by rfl) (fun K hK=>?_)
  go_simp
  refine(HF.out _).mono ?_
  rintro e w6 ⟨rfl,hb6⟩
  have C5:=h_ (C4.out.keep hb6);have I5:=h_ (I4.out.below hb6)
  clear hb6
  refine hK.out _ _ ?_ (fun hHeld=>?_)
  ·first|exact C3.out.keep (aJ (aG _))|exact C6.out|exact C5.out|exact C4.out
  clear hK K
  try simp only[Act.put,aK,aL,aM]
  refine tq 12 rfl ?_ (fun wS hSw=>?_) ?_
  rotate_left
  ·(try dsimp only at hSw)
   refine sk (.tmp 8) (.tmp 10) (.tmp 14) (.tmp 16) (.tmp 19) ?_ aC p.bP (df 3 p.q) p.bS (df 1 p.f) ?_ ?_ ?_ ?_ ?_ <;>rfl
  try simp only[Act.put,aK,aL,aM]
  refine rn 13 (by kernel_rfl) rfl (by rfl) (fun K hK=>?_)
  refine g9 30 (.tmp 4) (.tmp 20) rfl w bu 30 (ah aD U0) I5.out 0 (bH aD {U0 with aC:=aC,bP:=p.bP,q:=df 3 p.q,bS:=p.bS,f:=df 1 p.f}) rfl rfl (bA rfl) dq (pP rfl) (ah aD {U0 with aC:=aC,bP:=p.bP,q:=df 3 p.q,bS:=p.bS,f:=df 1 p.f}) (lz rfl rfl) ?_
  intro w7 i7 t7
  have I6:=h_ i7;have C6:=h_ (t7.cb C5.out hne)
  clear i7 t7
  refine hK.out _ _ ?_ (fun hHeld=>?_)
  ·first|exact C3.out.keep (aJ (aG _))|exact C6.out|exact C5.out|exact C4.out
  clear hK K
  try simp only[Act.put]
  refine wpAnyH_done (by kernel_rfl) ?_ _
  go_wp2_with fail
  rw[HRR.out]
  exact dL results98 rfl rfl I6.out ⟨rfl,I6.out.bq⟩
 go_upto_region 4 with(first
  |(go_at_call 96;refine(gF.out _).mono ?_;rintro e w4 ⟨rfl,hw⟩;subst hw)
  |fail)
 have HRR:=h_ (show R={U0 with aC:=aC,bP:=p.bP,q:=df 2 p.q,bS:=p.bS,f:=df 1 p.f} by rw[HR.out];rfl)
 have HQ:=H2
 refine wp_region_held_drew (S:=fun W=>CB W bx 68 (aT p)) (by kernel_rfl) (by first|exact C3.out.keep (aJ (aG _))|exact C6.out|exact C5.out|exact C4.out) (fun hHeld=>?_)
 refine tq 0 rfl ?_ (fun wS hSw=>?_) ?_
 rotate_left
 ·(try dsimp only at hSw);go_simp;first|done|with_reducible rfl
 try simp only[Act.put,aK,aL,aM]
 refine tq 1 rfl ?_ (fun wS hSw=>?_) ?_
 rotate_left
 ·(try dsimp only at hSw);go_simp;first|done|with_reducible rfl
 try simp only[Act.put,aK,aL,aM]
 refine tq 2 rfl ?_ (fun wS hSw=>?_) ?_
 rotate_left
 ·(try dsimp only at hSw)
  refine aF 4 (.tmp 9) ?_ bx 3 (.bool p.bP) _ underlying4 rfl ?_ ?_
  ·rfl
  ·rfl
  exact hSw.ak rfl
 try simp only[Act.put,aK,aL,aM]
 refine tq 3 rfl ?_ (fun wS hSw=>?_) ?_
 rotate_left
 ·(try dsimp only at hSw);go_simp;first|done|with_reducible rfl
 try simp only[Act.put,aK,aL,aM]
 refine tq 4 rfl ?_ (fun wS hSw=>?_) ?_
 rotate_left
 ·(try dsimp only at hSw)
  refine aF 9 (.tmp 11) ?_ bx 4 (S p.q) _ underlying9 rfl ?_ ?_
  ·rfl
  ·rfl
  exact hSw.ak rfl
 try simp only[Act.put,aK,aL,aM]
 refine tq 5 rfl ?_ (fun wS hSw=>?_) ?_
 rotate_left
 ·(try dsimp only at hSw);go_simp;first|done|with_reducible rfl
 try simp only[Act.put,aK,aL,aM]
 refine tq 7 rfl ?_ (fun wS hSw=>?_) ?_
 rotate_left
 ·(try dsimp only at hSw);go_simp;first|done|with_reducible rfl
 try simp only[Act.put,aK,aL,aM]
 refine tq 8 rfl ?_ (fun wS hSw=>?_) ?_
 rotate_left
 ·(try dsimp only at hSw)
  refine aF 4 (.tmp 15) ?_ bx 5 (.bool p.bS) _ underlying4 rfl ?_ ?_
  ·rfl
  ·rfl
  exact hSw.ak rfl
 try simp only[Act.put,aK,aL,aM]
 refine tq 9 rfl ?_ (fun wS hSw=>?_) ?_
 rotate_left
 ·(try dsimp only at hSw);go_simp;first|done|with_reducible rfl
 try simp only[Act.put,aK,aL,aM]
 refine tq 10 rfl ?_ (fun wS hSw=>?_) ?_
 rotate_left
 ·(try dsimp only at hSw)
  refine aF 9 (.tmp 17) ?_ bx 6 (S p.f) _ underlying9 rfl ?_ ?_
  ·rfl
  ·rfl
  exact hSw.ak rfl
 try simp only[Act.put,aK,aL,aM]
 refine rn 6 (by kernel_rfl) rfl (by rfl) (fun K hK=>?_)
 go_simp
 refine(HQ.out _).mono ?_
 rintro e w5 ⟨rfl,hb5⟩
 have C4:=h_ ((C3.out.keep (aJ (aG _))).keep hb5);have I4:=h_ ((I3.out.below (aJ (aG _))).below hb5)
 clear hb5
 refine hK.out _ _ ?_ (fun hHeld=>?_)
 ·first|exact C3.out.keep (aJ (aG _))|exact C6.out|exact C5.out|exact C4.out
 clear hK K
 try simp only[Act.put,aK,aL,aM]
 refine rn 11 (by kernel_rfl) rfl (by rfl) (fun K hK=>?_)
 go_simp
 refine(HF.out _).mono ?_
 rintro e w6 ⟨rfl,hb6⟩
 have C5:=h_ (C4.out.keep hb6);have I5:=h_ (I4.out.below hb6)
 clear hb6
 refine hK.out _ _ ?_ (fun hHeld=>?_)
 ·first|exact C3.out.keep (aJ (aG _))|exact C6.out|exact C5.out|exact C4.out
 clear hK K
 try simp only[Act.put,aK,aL,aM]
 refine tq 12 rfl ?_ (fun wS hSw=>?_) ?_
 rotate_left
 ·(try dsimp only at hSw)
  refine sk (.tmp 8) (.tmp 10) (.tmp 14) (.tmp 16) (.tmp 19) ?_ aC p.bP (df 2 p.q) p.bS (df 1 p.f) ?_ ?_ ?_ ?_ ?_ <;>rfl
 try simp only[Act.put,aK,aL,aM]
 refine rn 13 (by kernel_rfl) rfl (by rfl) (fun K hK=>?_)
 refine g9 30 (.tmp 4) (.tmp 20) rfl w bu 30 (ah aD U0) I5.out 0 (bH aD {U0 with aC:=aC,bP:=p.bP,q:=df 2 p.q,bS:=p.bS,f:=df 1 p.f}) rfl rfl (bA rfl) dq (pP rfl) (ah aD {U0 with aC:=aC,bP:=p.bP,q:=df 2 p.q,bS:=p.bS,f:=df 1 p.f}) (lz rfl rfl) ?_
 intro w7 i7 t7
 have I6:=h_ i7;have C6:=h_ (t7.cb C5.out hne)
 clear i7 t7
 refine hK.out _ _ ?_ (fun hHeld=>?_)
 ·first|exact C3.out.keep (aJ (aG _))|exact C6.out|exact C5.out|exact C4.out
 clear hK K
 try simp only[Act.put]
 refine wpAnyH_done (by kernel_rfl) ?_ _
 go_wp2_with fail
 rw[HRR.out]
 exact dL results98 rfl rfl I6.out ⟨rfl,I6.out.bq⟩

def yV (w:World):Option Url->Ending->World->Prop
 |none,e,w'=>e=AU∧Below w.heap.size w w'
 |some u,e,w'=>∃ pv,e=.returned (.agg (ah pv u))∧w'.ownsRow w.heap.size 9 1 pv u.path.length (Strs u.path)∧Below w.heap.size w w'
theorem OB.of {w0 W:World} {b:Nat} {T:TypeId} {cs:Array Value} (i:CB W b T cs) (hle:w0.heap.size<=b) (hb:Below w0.heap.size w0 W):OB w0 b T cs W:=⟨i.a,hle,hb⟩
theorem own_below' {W W':World} {base e n:Nat} {v:Value} {xs:List Value} (h:W.ownsRow base e 1 v n xs) (hb:Below W.heap.size W W'):W'.ownsRow base e 1 v n xs:=own_below h hb
section
variable {ops:Array Oper} {rest:List Oper} {o:Oper} {a:Act} {w:World} {Q:Exit->Act->World->Prop}
theorem eh (hgd:o.guard=none) (x:Operand) (ho:o.op=.load 30 x) (w0:World) (b:Nat) (pv:Value) (u:Url) (i:OB w0 b 30 (ah pv u) w) (h8:u.host.six.length=8) (hx:a.eval x=.pointer (some ⟨b,0,none⟩))
  (K:wpList prog ops Q rest (a.put o.dst (.agg (ah pv u))) w):wpList prog ops Q (o::rest) a w :=
 zP hgd _ x ho w0 b 30 (ah pv u) i _ hx underlying30 rfl (by rw[eL h8];exact dq) K
theorem eG (hgd:o.guard=none) (x y:Operand) (ho:o.op=.store 30 x y) (w0:World) (b:Nat) (i:OB w0 b 30 (ah aD U0) w) (pv:Value) (u:Url) (h8:u.host.six.length=8) (h1:pv.oneCell'=true)
  (hx:a.eval x=.pointer (some ⟨b,0,none⟩)) (hy:a.eval y=.agg (ah pv u))
  (K:∀ w',OB w0 b 30 (ah pv u) w'->Tn b w w'->wpList prog ops Q rest (a.put o.dst undef) w'):wpList prog ops Q (o::rest) a w :=
 rh hgd _ x y ho w0 b 30 (ah aD U0) i 0 (bH pv u) hx hy (by rw[gg h8];exact bA rfl) (by rw[gg h8];exact dq) (pP h1) (ah pv u) (lz rfl h8) K
theorem jq (hgd:Region.wanted o (yielded ops a.tmps)=true) (x:Operand) (ho:o.op=.load 68 x) (b:Nat) (p:jP) (i:CB w b 68 (aT p)) (hx:a.eval x=.pointer (some ⟨b,0,none⟩))
  (K:wpList prog ops Q rest (a.put o.dst (.agg (aT p))) w):wpList prog ops Q (o::rest) a w :=
 Ta hgd _ x ho b (aT p) _ underlying68 rfl lk hx i K
end
structure K2 (bx br b:Nat) (p:jP) (W:World):Prop where
 x:CB W bx 68 (aT p)
 r:CB W br 30 (ah aD U0)
 nx:bx≠b
 nr:br≠b
theorem K2.below {bx br b:Nat} {p:jP} {W W':World} (k:K2 bx br b p W) (h:Below W.heap.size W W'):K2 bx br b p W':=⟨k.x.keep h,k.r.keep h,k.nx,k.nr⟩
theorem K2.tn {bx br b:Nat} {p:jP} {W W':World} (k:K2 bx br b p W) (h:Tn b W W'):K2 bx br b p W':=⟨h.cb k.x k.nx,h.cb k.r k.nr,k.nx,k.nr⟩
structure Rs (s:Bytes):Prop where
 l:s.length<=307200000
 a:∀ sp k,AZ (dA sp (s.drop k)).1
 n:∀ sp k,Short (dA sp (s.drop k)).1
theorem Tp {s:Bytes} (h:s.length<=1048576):Rs s:=by
 have hd:∀ sp k,(dA sp (s.drop k)).1.length<=1048576:=fun sp k=>by have:=(l5 sp (s.drop k)).1;rw[ai]at this;omega
 exact⟨by omega,fun sp k=>F8 (hd sp k),fun sp k=>Ay (hd sp k)⟩
theorem sx (l m:Bytes) (w:World):Calls prog 95 #[.string (bs l),.string (bs m)] w fun e w'=>e=.returned (.tuple #[S (Lib.trimPrefix l m),.bool (Lib.hasPrefix l m)])∧w'=w:=by
 have h:=Any.strings_CutPrefix laysCut (bs l) (bs m) w
 rw[show(bs l).data.toList=l from du l,show(bs m).data.toList=m from du m]at h
 exact h
theorem P7 (l:Bytes):Lib.hasPrefix l [47,47]=true ↔ ∃r,l=47::47::r:=by
 unfold Lib.hasPrefix
 constructor
 ·intro h
  obtain⟨r,rfl⟩:=dO.1 h
  exact⟨r,rfl⟩
 rintro⟨r,rfl⟩
 exact dO.2 ⟨r,rfl⟩
theorem hpS (l:Bytes):Lib.hasPrefix l [47]=true ↔ ∃r,l=47::r:=by
 unfold Lib.hasPrefix
 constructor
 ·intro h
  obtain⟨r,rfl⟩:=dO.1 h
  exact⟨r,rfl⟩
 rintro⟨r,rfl⟩
 exact dO.2 ⟨r,rfl⟩
theorem iJ {u v:Url} {s:Bytes} (h:iI u s=some v):v.host.six.length=8:=by
 have h8:=@ath_six u.aC (dA (ep u.aC) s).1
 unfold iI at h
 cases hA:jk u.aC (dA (ep u.aC) s).1 with
 |none=>simp[hA]at h
 |some a =>
  rw[hA]at h8
  simp only[hA,ko]at h
  rw[<-h]
  exact h8

theorem MX {p:jP} {r:Bytes} (h:p.rest=47::47::r):fj p=iI (cQ p.aC p) r:=by
 unfold fj
 rw[h]
 rfl
theorem MY {p:jP} {r:Bytes} (h:p.rest=47::r) (h2:¬ ∃t,p.rest=47::47::t):fj p=some {cQ p.aC p with path:=cL (cQ p.aC p).aC [] r}:=by
 unfold fj
 rw[h]at h2 ⊢
 cases r with
 |nil=>rfl
 |cons c t =>
  by_cases hc:c=47
  ·subst hc
   exact absurd ⟨t,rfl⟩ h2
  dsimp only
  split
  ·rename_i r' he
   exact absurd (a1a (a1a he).2).1 hc
  ·rename_i r' _ he
   have:=(a1a he).2
   subst this
   rfl
  rename_i s' _ h3
  exact(h3 _ rfl).elim
theorem MZ {p:jP} (h2:¬ ∃t,p.rest=47::t):fj p=some {cQ p.aC p with opq:=true,flat:=if(p.bP=true∨p.bS=true)∧(df 0 p.rest).getLast? = some 32 then(df 0 p.rest).dropLast++[37,50,48]else df 0 p.rest}:=by
 unfold fj
 split
 ·rename_i r he
  exact absurd ⟨_,he⟩ h2
 ·rename_i r _ he
  exact absurd ⟨_,he⟩ h2
 rfl
theorem mA {w:World} {base e:Nat} {l:List Bytes} (h:l=[]):w.ownsRow base e 1 aD l.length (Strs l):=by rw[h];exact Fg
theorem a4o (l:Bytes):Lib.hasSuffix l [32]=true ↔ l.getLast? = some 32:=by
 unfold Lib.hasSuffix
 rw[List.isSuffixOf_iff_suffix]
 constructor
 ·rintro⟨r,rfl⟩
  simp
 intro h
 obtain⟨r,rfl⟩:=XZ.1 h
 exact⟨r,rfl⟩
theorem a4V (l:Bytes) (h:Lib.hasSuffix l [32]=true):Lib.trimSuffix l [32]=l.dropLast:=by
 unfold Lib.trimSuffix
 rw[if_pos h,kN]
 rfl
theorem Dl (p:jP) (w:World) (hr:Rs p.rest) (hq:p.q.length<=307200000) (hf:p.f.length<=307200000) (hE:Env w):Calls prog 101 #[.agg (aT p)] w (yV w (fj p)):=by
 have HST:=h_ (fun W=>m9 p.aC p W (by omega) (by omega))
 have hc2:=fun W=>sx p.rest [47,47] W
 have hc1:=fun W=>sx p.rest [47] W
 have hcs:=fun W=>BO (df 0 p.rest) [32] W (by have:=fB 0 p.rest;have:=hr.l;omega)
 have hen:=fun W=>eo 0 p.rest W (by have:=hr.l;omega)
 obtain⟨us,lG⟩:=ap (cQ p.aC p)
 have h8:us.host.six.length=8:=by rw[lG];rfl
 have hsc:us.aC=p.aC:=by rw[lG];rfl
 have hup:us.path=[]:=by rw[lG];rfl
 rw[<-lG]at HST
 obtain⟨R,hR⟩:=ap (fj p)
 rw[<-hR]
 have HE:=h_ hE
 have qU:=h_ hr
 have H8:=h_ h8
 have rJ:=h_ hsc
 have yC:=h_ hup
 rw[show bs [47,47]=⟨#[47,47]⟩from rfl]at hc2
 rw[show bs [47]=⟨#[47]⟩from rfl]at hc1
 rw[show bs [32]=⟨#[32]⟩from rfl]at hcs
 have uZ:=h_ hcs
 have xf:=h_ hen
 have HC1:=h_ hc1
 have Iz:=h_ hc2
 have HR:=h_ hR
 have WU:=h_ lG
 clear hr hq hf hE h8 hsc hup hc2 hc1 hcs hen hR lG
 go_enter func101,ntmps101
 go_upto_region 1 with(first
  |(refine aE rfl 30 rfl _ _ (cD _) ?_)
  |fail)
 have hx:=CB.new w 68 (aT p)
 have hb:=(Below.refl w.heap.size w).alloc (ae _) (.cells (aT p) 68)
 obtain⟨w2,hw2⟩:=ap (w.alloc (.cells (aT p) 68))
 have hz:w2.heap.size=w.heap.size+1:=by rw[hw2];simp
 rw[<-hw2]at hx hb ⊢
 have hu:=CB.new w2 30 (ah aD U0)
 have hb2:=(Below.refl w2.heap.size w2).alloc (ae _) (.cells (ah aD U0) 30)
 obtain⟨w3,hw3⟩:=ap (w2.alloc (.cells (ah aD U0) 30))
 have hz3:w3.heap.size=w.heap.size+2:=by rw[hw3];simp[hz]
 rw[<-hw3]at hu hb2 ⊢
 rw[hz]at hu
 try rw[hz]
 have hx3:=hx.keep hb2
 obtain⟨bx,hbx⟩:=ap (w.heap.size)
 obtain⟨br,hbr⟩:=ap (w.heap.size+1)
 rw[<-hbr]at hu ⊢
 rw[<-hbx]at hx3 ⊢
 have hlx:bx<w3.heap.size:=by omega
 have hlr:br<w3.heap.size:=by omega
 have gJ:=h_ (show w.heap.size<=br by omega)
 have B3:=h_ (fJ hb hb2)
 have X3:=h_ hx3
 have R3:=h_ hu
 clear hx hb hw2 hz hu hb2 hw3 hx3 hbx hbr hz3
 have c1:=X3.out.ak (j:=1) (v:=S p.aC) rfl
 go_upto_region 2 with(first
  |(refine jq rfl (.tmp 1) rfl bx p X3.out rfl ?_)
  |(go_at_call 98;refine(HST.out _).mono ?_;rintro e w4 ⟨rfl,hb⟩;have eZ:=h_ hb;clear hb)
  |(refine aE rfl 30 rfl _ _ (cD _) ?_)
  |(refine cN rfl (.tmp 3) (.tmp 13) rfl aD us H8.out rfl rfl rfl rfl ?_;intro w5 hh hb;have I5:=h_ (OB.of (w0:=w) hh (aq B3.out.size eZ.out.size) (fJ (fJ B3.out eZ.out) hb));have K5:=h_ (show K2 bx br w4.heap.size p w5 from⟨(X3.out.keep eZ.out).keep hb,(R3.out.keep eZ.out).keep hb,by have:=eZ.out.size;omega,by have:=eZ.out.size;omega⟩);have nB:=h_ (show br<w4.heap.size by have:=eZ.out.size;omega);clear hh hb)
  |fail)
 obtain⟨b,hbb⟩:=ap (w4.heap.size)
 rw[<-hbb]at I5 K5 nB ⊢
 clear c1 hbb hlx hlr
 have c2:=K5.out.x.ak (j:=2) (v:=S p.rest) rfl
 by_cases hA:∃ r,p.rest=47::47::r
 ·obtain⟨r,hr⟩:=hA
  have hp1:Lib.hasPrefix p.rest [47,47]=true:=(P7 _).2 ⟨r,hr⟩
  have ht:Lib.trimPrefix p.rest [47,47]=r:=by unfold Lib.trimPrefix;rw[if_pos hp1,hr];rfl
  have cX:=h_ (show R=iI us r by rw[HR.out,MX hr,WU.out])
  have FL:=h_ (fun W=>(show Calls prog 95 #[S p.rest,.string ⟨#[47,47]⟩] W fun e w'=>e=.returned (.tuple #[S r,.bool true])∧w'=W from by have h:=Iz.out W;rw[ht,hp1]at h;exact h))
  have HAS:=h_ (fun W (i:OB w b 30 (ah aD us) W)=>rN w b us r W i H8.out yC.out (by have:=qU.out.l;rw[hr]at this;simp at this;omega) (by have:=qU.out.a (ep us.aC) 2;rw[hr]at this;exact this) (HE.out.below i.bq))
  clear hp1 ht hr
  cases hO:iI us r with
  |none =>
   rw[hO]at cX
   have pX:=h_ (fun W i=>(show Calls prog 99 #[.pointer (some ⟨b,0,none⟩),S r] W fun e w'=>e=AU∧Below w.heap.size w w'∧Tn b W w' from by have h:=HAS.out W i;rw[hO]at h;exact h))
   clear hO HAS
   go_wp2_with (first
    |(go_at_call 95;refine(FL.out _).mono ?_;rintro e w6 ⟨rfl,hw⟩;subst hw)
    |(go_at_call 99;refine(pX.out _ I5.out).mono ?_;rintro e w7 ⟨rfl,hb,_⟩;have B7:=h_ hb;clear hb)
    |fail)
   rw[cX.out]
   exact⟨rfl,rfl,B7.out⟩
  |some u =>
   rw[hO]at cX
   have pX:=h_ (fun W i=>(show Calls prog 99 #[.pointer (some ⟨b,0,none⟩),S r] W fun e w'=>e=.returned (.tuple #[])∧(∃pv,OB w b 30 (ah pv u) w'∧w'.ownsRow W.heap.size 9 1 pv u.path.length (Strs u.path))∧Tn b W w' from by have h:=HAS.out W i;rw[hO]at h;exact h))
   have U8:=h_ (iJ hO)
   clear hO HAS
   go_wp2_with (first
    |(go_at_call 95;refine(FL.out _).mono ?_;rintro e w6 ⟨rfl,hw⟩;subst hw)
    |(go_at_call 99;refine(pX.out _ I5.out).mono ?_;rintro e w7 ⟨rfl,⟨pv,i7,o7⟩,t7⟩;have I7:=h_ i7;have O7:=h_ o7;have K7:=h_ (K5.out.tn t7);clear i7 o7 t7)
    |(refine eh rfl (.tmp 3) rfl w b pv u I7.out U8.out rfl ?_)
    |(refine eG rfl (.tmp 2) (.tmp 23) rfl w br (OB.of K7.out.r gJ.out I7.out.bq) pv u U8.out (aS O7.out) rfl rfl ?_;intro w8 i8 t8;have I8:=h_ i8;have O8:=h_ (aU (t8.row O7.out (aP nB.out (uH I5.out.lt))) I5.out.bq.size);clear i8 t8)
    |fail)
   rw[cX.out]
   exact dL (u:=u) results101 U8.out rfl I8.out ⟨pv,rfl,O8.out,I8.out.bq⟩
 by_cases hB:∃ r,p.rest=47::r
 ·obtain⟨r,hr⟩:=hB
  have hp0:Lib.hasPrefix p.rest [47,47]=false:=by rw[Iy];exact fun h=>hA ((P7 _).1 h)
  have ht0:Lib.trimPrefix p.rest [47,47]=p.rest:=by unfold Lib.trimPrefix;rw[if_neg (by simp[hp0])]
  have hp1:Lib.hasPrefix p.rest [47]=true:=(hpS _).2 ⟨r,hr⟩
  have ht:Lib.trimPrefix p.rest [47]=r:=by unfold Lib.trimPrefix;rw[if_pos hp1,hr];rfl
  have FL:=h_ (fun W=>(show Calls prog 95 #[S p.rest,.string ⟨#[47,47]⟩] W fun e w'=>e=.returned (.tuple #[S p.rest,.bool false])∧w'=W from by have h:=Iz.out W;rw[ht0,hp0]at h;exact h))
  have IC:=h_ (fun W=>(show Calls prog 95 #[S p.rest,.string ⟨#[47]⟩] W fun e w'=>e=.returned (.tuple #[S r,.bool true])∧w'=W from by have h:=HC1.out W;rw[ht,hp1]at h;exact h))
  obtain⟨P,hP⟩:=ap (cL us.aC [] r)
  have kJ:=h_ (fun W=>(show Calls prog 129 #[S us.aC,aD,S r] W (fd W 9 (Strs P))from by rw[hP];exact fp us.aC r [] aD W Sl.nil (by have:=qU.out.l;rw[hr]at this;simp at this;omega) (by simp) (by simp)))
  have ru:=h_ (show R=some {us with path:=P} by rw[HR.out,MY hr hA,hP,WU.out])
  clear hp0 ht0 hp1 ht hr hA hP
  have c0:=I5.out.ak (qP aD us H8.out).aC
  go_upto_region 8 with(first
   |(go_at_call 95;(with_reducible first|(refine(FL.out _).mono ?_)|(refine(IC.out _).mono ?_));rintro e w6 ⟨rfl,hw⟩;subst hw)
   |fail)
  go_wp2_with (first
   |(go_at_call 129;refine(kJ.out _).mono ?_;rintro e w7 ⟨pv,rfl,o7,hb⟩;have O7:=h_ o7;have I7:=h_ (I5.out.below hb);have K7:=h_ (K5.out.below hb);clear o7 hb)
   |(refine dJ rfl 28 (.tmp 35) (.tmp 34) rfl w b 30 (ah aD us) I7.out 18 pv rfl rfl (eX H8.out (by decide)) dy (aS O7.out) (ah pv {us with path:=P}) ((eW aD us H8.out).path _ _) ?_;intro w8 i8 t8;have I8:=h_ i8;have K8:=h_ (K7.out.tn t8);have O8:=h_ (t8.row O7.out I5.out.lt);clear i8 t8)
   |(refine eh rfl (.tmp 3) rfl w b pv {us with path:=P} I8.out H8.out rfl ?_)
   |(refine eG rfl (.tmp 2) (.tmp 36) rfl w br (OB.of K8.out.r gJ.out I8.out.bq) pv {us with path:=P} H8.out (aS O8.out) rfl rfl ?_;intro w9 i9 t9;have I9:=h_ i9;have O9:=h_ (aU (t9.row O8.out (aP nB.out (uH I5.out.lt))) I5.out.bq.size);clear i9 t9)
   |fail)
  rw[ru.out]
  exact dL (u:={us with path:=P}) results101 H8.out rfl I9.out ⟨pv,rfl,eu O9.out,I9.out.bq⟩
 have hp0:Lib.hasPrefix p.rest [47,47]=false:=by rw[Iy];exact fun h=>hA ((P7 _).1 h)
 have ht0:Lib.trimPrefix p.rest [47,47]=p.rest:=by unfold Lib.trimPrefix;rw[if_neg (by simp[hp0])]
 have hp1:Lib.hasPrefix p.rest [47]=false:=by rw[Iy];exact fun h=>hB ((hpS _).1 h)
 have ht:Lib.trimPrefix p.rest [47]=p.rest:=by unfold Lib.trimPrefix;rw[if_neg (by simp[hp1])]
 have FL:=h_ (fun W=>(show Calls prog 95 #[S p.rest,.string ⟨#[47,47]⟩] W fun e w'=>e=.returned (.tuple #[S p.rest,.bool false])∧w'=W from by have h:=Iz.out W;rw[ht0,hp0]at h;exact h))
 have IC:=h_ (fun W=>(show Calls prog 95 #[S p.rest,.string ⟨#[47]⟩] W fun e w'=>e=.returned (.tuple #[S p.rest,.bool false])∧w'=W from by have h:=HC1.out W;rw[ht,hp1]at h;exact h))
 obtain⟨fl,hfl⟩:=ap (df 0 p.rest)
 have rI:=h_ (show R=some {us with opq:=true,flat:=if(p.bP=true∨p.bS=true)∧fl.getLast? = some 32 then fl.dropLast++[37,50,48]else fl} by rw[HR.out,MZ hB,hfl,WU.out])
 have hsx:=a4o fl
 have htx:=a4V fl
 rw[<-hfl]at xf uZ
 have xg:=h_ (show fl.length<=921600000 by rw[hfl];have:=fB 0 p.rest;have:=qU.out.l;omega)
 generalize Lib.hasSuffix fl [32]=hs at *
 generalize Lib.trimSuffix fl [32]=tf at *
 have FR:=h_ htx
 have Jp:=h_ hsx
 clear hp0 ht0 hp1 ht hB hA hfl htx hsx
 go_upto_region 12 with(first
  |(go_at_call 95;(with_reducible first|(refine(FL.out _).mono ?_)|(refine(IC.out _).mono ?_));rintro e w6 ⟨rfl,hw⟩;subst hw)
  |(refine dJ rfl 4 (.tmp 37) (.const (.bool true)) rfl w b 30 (ah aD us) I5.out 16 (.bool true) rfl rfl (eX H8.out (by decide)) bF.2.2 rfl (ah aD {us with opq:=true}) ((eW aD us H8.out).opq _) ?_;intro w7 i7 t7;have I7:=h_ i7;have K7:=h_ (K5.out.tn t7);have d2:=K7.out.x.ak (j:=2) (v:=S p.rest) rfl;clear i7 t7)
  |(go_at_call 132;refine(xf.out _).mono ?_;rintro e w8 ⟨rfl,hb⟩;have I8:=h_ (I7.out.below hb);have K8:=h_ (K7.out.below hb);clear hb)
  |(refine dJ rfl 9 (.tmp 41) (.tmp 40) rfl w b 30 (ah aD {us with opq:=true}) I8.out 17 (S fl) rfl rfl (eX H8.out (by decide)) bF.1 rfl (ah aD {us with opq:=true,flat:=fl}) ((eW aD {us with opq:=true} H8.out).flat _) ?_;intro w9 i9 t9;have I9:=h_ i9;have K9:=h_ (K8.out.tn t9);clear i9 t9)
  |fail)
 clear c2 d2
 have c3:=K9.out.x.ak (j:=3) (v:=.bool p.bP) rfl
 have c5:=K9.out.x.ak (j:=5) (v:=.bool p.bS) rfl
 have c17:=I9.out.ak (qP aD {us with opq:=true,flat:=fl} H8.out).flat
 have hcs:(p.bP=true)∨(p.bP=false∧p.bS=true)∨(p.bP=false∧p.bS=false):=by cases p.bP <;>cases p.bS <;>simp
 rcases hcs with hq|⟨hq,hf⟩|⟨hq,hf⟩
 ·rw[hq]at c3
  cases hs with
  |true =>
   have uK:=h_ (show R=some {us with opq:=true,flat:=fl.dropLast++[37,50,48]} by rw[rI.out,if_pos ⟨by simp[hq],Jp.out.1 rfl⟩])
   have Cw:=FR.out rfl
   have HTF:=h_ (show S tf=S fl.dropLast by rw[Cw])
   have HAD:=h_ (show bs tf++(⟨#[37,50,48]⟩:ByteArray)=bs (fl.dropLast++[37,50,48]) by rw[Cw,<-gO];rfl)
   obtain⟨tg,VE⟩:=ap (bs (fl.dropLast++[37,50,48]))
   rw[<-VE]at HAD
   have HTG:=h_ VE
   obtain⟨th,hth⟩:=ap (bs tf)
   rw[<-hth]at HAD
   have Rw:=h_ (fun W=>(show Calls prog 136 #[S fl,.string ⟨#[32]⟩] W fun e w'=>e=.returned (.tuple #[.string th,.bool true])∧w'=W from by rw[hth];exact uZ.out W))
   clear VE uZ HTF
   have a4q:th.size<=921600000:=by rw[hth,aB,Cw,gX];have:=xg.out;omega
   clear hth Cw
   have had:=HAD.out
   go_upto_region 15 with(first
    |(go_at_call 136;refine(Rw.out _).mono ?_;rintro e wV ⟨rfl,hw⟩;subst hw)
    |fail)
   go_upto_region 16 with(first
    |(refine dJ rfl 9 (.tmp 57) (.tmp 56) rfl w b 30 (ah aD {us with opq:=true,flat:=fl}) I9.out 17 (.string tg) rfl rfl (eX H8.out (by decide)) bF.1 rfl (ah aD {us with opq:=true,flat:=fl.dropLast++[37,50,48]}) (by rw[HTG.out];exact(eW aD {us with opq:=true,flat:=fl} H8.out).flat _) ?_;intro Ow i11 t11;have u9:=h_ i11;have Pa:=h_ (K9.out.tn t11);clear i11 t11)
    |fail)
   go_wp2_with (first
    |(refine eh rfl (.tmp 3) rfl w b aD {us with opq:=true,flat:=fl.dropLast++[37,50,48]} u9.out H8.out rfl ?_)
    |(refine eG rfl (.tmp 2) (.tmp 58) rfl w br (OB.of Pa.out.r gJ.out u9.out.bq) aD {us with opq:=true,flat:=fl.dropLast++[37,50,48]} H8.out rfl rfl rfl ?_;intro wZ iZ _;have IZ:=h_ iZ;clear iZ)
    |fail)
   rw[uK.out]
   exact dL (u:={us with opq:=true,flat:=fl.dropLast++[37,50,48]}) results101 H8.out rfl IZ.out ⟨aD,rfl,mA yC.out,IZ.out.bq⟩
  |false =>
   have uK:=h_ (show R=some {us with opq:=true,flat:=fl} by rw[rI.out,if_neg (by rintro⟨_,h⟩;have:=Jp.out.2 h;cases this)])
   go_wp2_with (first
    |(go_at_call 136;refine(uZ.out _).mono ?_;rintro e wV ⟨rfl,hw⟩;subst hw)
    |(refine eh rfl (.tmp 3) rfl w b aD {us with opq:=true,flat:=fl} I9.out H8.out rfl ?_)
    |(refine eG rfl (.tmp 2) (.tmp 58) rfl w br (OB.of K9.out.r gJ.out I9.out.bq) aD {us with opq:=true,flat:=fl} H8.out rfl rfl rfl ?_;intro wZ iZ _;have IZ:=h_ iZ;clear iZ)
    |fail)
   rw[uK.out]
   exact dL (u:={us with opq:=true,flat:=fl}) results101 H8.out rfl IZ.out ⟨aD,rfl,mA yC.out,IZ.out.bq⟩
 ·rw[hq]at c3
  rw[hf]at c5
  cases hs with
  |true =>
   have uK:=h_ (show R=some {us with opq:=true,flat:=fl.dropLast++[37,50,48]} by rw[rI.out,if_pos ⟨by simp[hf],Jp.out.1 rfl⟩])
   have Cw:=FR.out rfl
   have HTF:=h_ (show S tf=S fl.dropLast by rw[Cw])
   have HAD:=h_ (show bs tf++(⟨#[37,50,48]⟩:ByteArray)=bs (fl.dropLast++[37,50,48]) by rw[Cw,<-gO];rfl)
   obtain⟨tg,VE⟩:=ap (bs (fl.dropLast++[37,50,48]))
   rw[<-VE]at HAD
   have HTG:=h_ VE
   obtain⟨th,hth⟩:=ap (bs tf)
   rw[<-hth]at HAD
   have Rw:=h_ (fun W=>(show Calls prog 136 #[S fl,.string ⟨#[32]⟩] W fun e w'=>e=.returned (.tuple #[.string th,.bool true])∧w'=W from by rw[hth];exact uZ.out W))
   clear VE uZ HTF
   have a4q:th.size<=921600000:=by rw[hth,aB,Cw,gX];have:=xg.out;omega
   clear hth Cw
   have had:=HAD.out
   go_upto_region 15 with(first
    |(go_at_call 136;refine(Rw.out _).mono ?_;rintro e wV ⟨rfl,hw⟩;subst hw)
    |fail)
   go_upto_region 16 with(first
    |(refine dJ rfl 9 (.tmp 57) (.tmp 56) rfl w b 30 (ah aD {us with opq:=true,flat:=fl}) I9.out 17 (.string tg) rfl rfl (eX H8.out (by decide)) bF.1 rfl (ah aD {us with opq:=true,flat:=fl.dropLast++[37,50,48]}) (by rw[HTG.out];exact(eW aD {us with opq:=true,flat:=fl} H8.out).flat _) ?_;intro Ow i11 t11;have u9:=h_ i11;have Pa:=h_ (K9.out.tn t11);clear i11 t11)
    |fail)
   go_wp2_with (first
    |(refine eh rfl (.tmp 3) rfl w b aD {us with opq:=true,flat:=fl.dropLast++[37,50,48]} u9.out H8.out rfl ?_)
    |(refine eG rfl (.tmp 2) (.tmp 58) rfl w br (OB.of Pa.out.r gJ.out u9.out.bq) aD {us with opq:=true,flat:=fl.dropLast++[37,50,48]} H8.out rfl rfl rfl ?_;intro wZ iZ _;have IZ:=h_ iZ;clear iZ)
    |fail)
   rw[uK.out]
   exact dL (u:={us with opq:=true,flat:=fl.dropLast++[37,50,48]}) results101 H8.out rfl IZ.out ⟨aD,rfl,mA yC.out,IZ.out.bq⟩
  |false =>
   have uK:=h_ (show R=some {us with opq:=true,flat:=fl} by rw[rI.out,if_neg (by rintro⟨_,h⟩;have:=Jp.out.2 h;cases this)])
   go_wp2_with (first
    |(go_at_call 136;refine(uZ.out _).mono ?_;rintro e wV ⟨rfl,hw⟩;subst hw)
    |(refine eh rfl (.tmp 3) rfl w b aD {us with opq:=true,flat:=fl} I9.out H8.out rfl ?_)
    |(refine eG rfl (.tmp 2) (.tmp 58) rfl w br (OB.of K9.out.r gJ.out I9.out.bq) aD {us with opq:=true,flat:=fl} H8.out rfl rfl rfl ?_;intro wZ iZ _;have IZ:=h_ iZ;clear iZ)
    |fail)
   rw[uK.out]
   exact dL (u:={us with opq:=true,flat:=fl}) results101 H8.out rfl IZ.out ⟨aD,rfl,mA yC.out,IZ.out.bq⟩
 rw[hq]at c3
 rw[hf]at c5
 have uK:=h_ (show R=some {us with opq:=true,flat:=fl} by rw[rI.out,if_neg (by simp[hq,hf])])
 go_wp2_with (first
  |(refine eh rfl (.tmp 3) rfl w b aD {us with opq:=true,flat:=fl} I9.out H8.out rfl ?_)
  |(refine eG rfl (.tmp 2) (.tmp 58) rfl w br (OB.of K9.out.r gJ.out I9.out.bq) aD {us with opq:=true,flat:=fl} H8.out rfl rfl rfl ?_;intro wZ iZ _;have IZ:=h_ iZ;clear iZ)
  |fail)
 rw[uK.out]
 exact dL (u:={us with opq:=true,flat:=fl}) results101 H8.out rfl IZ.out ⟨aD,rfl,mA yC.out,IZ.out.bq⟩

structure K3 (bb bx br b:Nat) (bv:Value) (u:Url) (p:jP) (W:World):Prop where
 cb:CB W bb 30 (ah bv u)
 cx:CB W bx 68 (aT p)
 cr:CB W br 30 (ah aD U0)
 nb:bb≠b
 nx:bx≠b
 nr:br≠b
section
variable {bb bx br b:Nat} {bv:Value} {u:Url} {p:jP} {W W':World}
theorem K3.below (k:K3 bb bx br b bv u p W) (h:Below W.heap.size W W'):K3 bb bx br b bv u p W':=⟨k.cb.keep h,k.cx.keep h,k.cr.keep h,k.nb,k.nx,k.nr⟩
theorem K3.tn (k:K3 bb bx br b bv u p W) (h:Tn b W W'):K3 bb bx br b bv u p W':=⟨h.cb k.cb k.nb,h.cb k.cx k.nx,h.cb k.cr k.nr,k.nb,k.nx,k.nr⟩
end
theorem three (w:World) (bv:Value) (u:Url) (p:jP):∃ w3,((w.alloc (.cells (ah bv u) 30)).alloc (.cells (aT p) 68)).alloc (.cells (ah aD U0) 30)=w3∧w3.heap.size=w.heap.size+3∧Below w.heap.size w w3∧CB w3 w.heap.size 30 (ah bv u)∧CB w3 (w.heap.size+1) 68 (aT p)∧CB w3 (w.heap.size+2) 30 (ah aD U0):=by
 have hx:=CB.new w 30 (ah bv u)
 have hb:=(Below.refl w.heap.size w).alloc (ae _) (.cells (ah bv u) 30)
 obtain⟨w1,hw1⟩:=ap (w.alloc (.cells (ah bv u) 30))
 have hz1:w1.heap.size=w.heap.size+1:=by rw[hw1];simp
 rw[<-hw1]at hx hb ⊢
 have hy:=CB.new w1 68 (aT p)
 have hb2:=(Below.refl w1.heap.size w1).alloc (ae _) (.cells (aT p) 68)
 obtain⟨w2,hw2⟩:=ap (w1.alloc (.cells (aT p) 68))
 have hz2:w2.heap.size=w.heap.size+2:=by rw[hw2];simp[hz1]
 rw[<-hw2]at hy hb2 ⊢
 have hu:=CB.new w2 30 (ah aD U0)
 have hb3:=(Below.refl w2.heap.size w2).alloc (ae _) (.cells (ah aD U0) 30)
 obtain⟨w3,hw3⟩:=ap (w2.alloc (.cells (ah aD U0) 30))
 have hz3:w3.heap.size=w.heap.size+3:=by rw[hw3];simp[hz2]
 rw[<-hw3]at hu hb3 ⊢
 rw[hz1]at hy
 rw[hz2]at hu
 exact⟨w3,rfl,hz3,fJ (fJ hb hb2) hb3,(hx.keep hb2).keep hb3,hy.keep hb3,hu⟩
theorem QW {B:Nat} {w:World} {v:Value} {xs:List Value} (h:Sl B w v xs):v.oneCell'=true:=by
 obtain⟨c,_,_,⟨_,a,rfl⟩|⟨b,o,_,rfl,_⟩⟩:=h <;>rfl
theorem Ll (bu:Url) (bv:Value) (p:jP) (w:World) (h8:bu.host.six.length=8) (hbv:Sl w.heap.size w bv (bu.path.map S)) (hbl:bu.path.length<=307200000) (hf:p.f.length<=307200000):Calls prog 102 #[.agg (ah bv bu),.agg (aT p)] w (yV w (jV bu p)):=by
 have xf:=h_ (fun W=>eo 1 p.f W (by omega))
 obtain⟨R,hR⟩:=ap (jV bu p)
 rw[<-hR]
 unfold jV at hR
 have H8:=h_ h8
 have Ob:=h_ hbv
 have nB:=h_ hbl
 have HR:=h_ hR
 obtain⟨ff,Vp⟩:=ap (df 1 p.f)
 rw[<-Vp]at xf HR
 have hre:(bs p.rest).toList=[] ↔ p.rest=[]:=by rw[au]
 have u5:=h_ hre
 have hk:(p.bS=true∧p.bP=false∧p.rest=[])∨(p.bS=false)∨(p.bS=true∧p.bP=true)∨(p.bS=true∧p.bP=false∧p.rest ≠ []):=by
  cases p.bS <;>cases p.bP <;>by_cases h:p.rest=[] <;>simp[h]
 clear h8 hbv hbl hf hR hre Vp
 go_enter func102,ntmps102
 go_upto_region 1 with(first
  |(refine aE rfl 30 rfl _ _ (cD _) ?_)
  |fail)
 obtain⟨w3,hw3,hz3,hb,k1,k2,k3⟩:=three w bv bu p
 try rw[show((w.alloc (.cells (ah bv bu) 30)).alloc (.cells (aT p) 68)).heap.size=w.heap.size+2 by simp]
 rw[hw3]
 clear hw3
 obtain⟨br,hbr⟩:=ap (w.heap.size+2)
 obtain⟨bx,hbx⟩:=ap (w.heap.size+1)
 obtain⟨bb,hbb⟩:=ap (w.heap.size)
 rw[<-hbr]at k3
 rw[<-hbx]at k2
 rw[<-hbb]at k1
 rw[<-hbr,<-hbx,<-hbb]
 have gJ:=h_ (show w.heap.size<=br by omega)
 have lW:=h_ hbb
 have B3:=h_ hb
 have V3:=h_ k1
 have X3:=h_ k2
 have R3:=h_ k3
 have HD:=h_ (show bb<bx∧bx<br by omega)
 clear hz3 hb k1 k2 k3 hbr hbx hbb
 have d2:=X3.out.ak (j:=2) (v:=S p.rest) rfl
 have d3:=X3.out.ak (j:=3) (v:=.bool p.bP) rfl
 have d5:=X3.out.ak (j:=5) (v:=.bool p.bS) rfl
 rcases hk with⟨k1,k2,k3⟩|k1|⟨k1,k2⟩|⟨k1,k2,k3⟩
 ·have he1:(bs p.rest).toList.isEmpty=true:=by rw[u5.out.2 k3];rfl
  rw[k1]at d5
  rw[k2]at d3
  have cX:=h_ (show R=some {bu with bS:=true,f:=ff} by rw[HR.out,if_neg (by simp[k1,k2,k3])])
  clear k1 k2 k3
  go_upto_region 4 with(first
   |(refine eh rfl (.tmp 2) rfl w bb bv bu (OB.of V3.out (bA lW.out.symm) B3.out) H8.out rfl ?_)
   |(refine aE rfl 30 rfl _ _ (cD _) ?_)
   |(refine cN rfl (.tmp 5) (.tmp 20) rfl bv bu H8.out (QW Ob.out) rfl rfl rfl ?_;intro w5 hh hb;have I5:=h_ (OB.of (w0:=w) hh B3.out.size (fJ B3.out hb));have K5:=h_ (show K3 bb bx br w3.heap.size bv bu p w5 from⟨V3.out.keep hb,X3.out.keep hb,R3.out.keep hb,cj V3.out.lt,cj X3.out.lt,cj R3.out.lt⟩);clear hh hb)
   |fail)
  obtain⟨b,hb⟩:=ap (w3.heap.size)
  have FJ:=h_ (show br<b by rw[hb];exact R3.out.lt)
  rw[<-hb]at I5 K5 ⊢
  clear hb d2 d3 d5
  have c8:=K5.out.cb.ak (qP bv bu H8.out).path
  have d6:=K5.out.cx.ak (j:=6) (v:=S p.f) rfl
  go_upto_region 5 with(first
   |(go_at_call 30;refine(fX bu.path bv _ ((Ob.out.below I5.out.bq).more I5.out.bq.size) (by have:=nB.out;omega)).mono ?_;rintro e w6 ⟨pv,rfl,o6,hb⟩;have O6:=h_ (eu o6);have I6:=h_ (I5.out.below hb);have K6:=h_ (K5.out.below hb);have jB:=h_ (show b<w5.heap.size from I5.out.lt);clear o6 hb)
   |(refine dJ rfl 28 (.tmp 24) (.tmp 23) rfl w b 30 (ah bv bu) I6.out 18 pv rfl rfl (eX H8.out (by decide)) dy (aS O6.out) (ah pv bu) ((eW bv bu H8.out).path _ bu.path) ?_;intro w7 i7 t7;have I7:=h_ i7;have K7:=h_ (K6.out.tn t7);have O7:=h_ (t7.row O6.out jB.out);clear i7 t7)
   |fail)
  clear c8 d6
  have d6:=K7.out.cx.ak (j:=6) (v:=S p.f) rfl
  go_wp2_with (first
   |(refine dJ rfl 4 (.tmp 25) (.const (.bool true)) rfl w b 30 (ah pv bu) I7.out 21 (.bool true) rfl rfl (eX H8.out (by decide)) bF.2.2 rfl (ah pv {bu with bS:=true}) ((eW pv bu H8.out).bS _) ?_;intro w8 i8 t8;have I8:=h_ i8;have K8:=h_ (K7.out.tn t8);have O8:=h_ (t8.row O7.out jB.out);have e6:=K8.out.cx.ak (j:=6) (v:=S p.f) rfl;clear i8 t8)
   |(go_at_call 132;refine(xf.out _).mono ?_;rintro e w9 ⟨rfl,hb⟩;have I9:=h_ (I8.out.below hb);have K9:=h_ (K8.out.below hb);have O9:=h_ (own_below O8.out hb);clear hb)
   |(refine dJ rfl 9 (.tmp 29) (.tmp 28) rfl w b 30 (ah pv {bu with bS:=true}) I9.out 22 (S ff) rfl rfl (eX H8.out (by decide)) bF.1 rfl (ah pv {bu with bS:=true,f:=ff}) ((eW pv {bu with bS:=true} H8.out).f _) ?_;intro wV pl t10;have lJ:=h_ pl;have rL:=h_ (K9.out.tn t10);have lZ:=h_ (t10.row O9.out jB.out);clear pl t10)
   |(refine eh rfl (.tmp 5) rfl w b pv {bu with bS:=true,f:=ff} lJ.out H8.out rfl ?_)
   |(refine eG rfl (.tmp 4) (.tmp 30) rfl w br (OB.of rL.out.cr gJ.out lJ.out.bq) pv {bu with bS:=true,f:=ff} H8.out (aS lZ.out) rfl rfl ?_;intro Ow i11 t11;have u9:=h_ i11;have Ol:=h_ (aU (t11.row lZ.out (Nat.lt_trans FJ.out jB.out)) I5.out.bq.size);clear i11 t11)
   |fail)
  rw[cX.out]
  exact dL (u:={bu with bS:=true,f:=ff}) results102 H8.out rfl u9.out ⟨pv,rfl,Ol.out,u9.out.bq⟩
 ·rw[k1]at d5
  have cX:=h_ (show R=none by rw[HR.out,if_pos (by simp[k1])])
  go_wp2_with fail
  rw[cX.out]
  exact⟨rfl,rfl,B3.out⟩
 ·rw[k1]at d5
  rw[k2]at d3
  have cX:=h_ (show R=none by rw[HR.out,if_pos (by simp[k2])])
  go_wp2_with fail
  rw[cX.out]
  exact⟨rfl,rfl,B3.out⟩
 rw[k1]at d5
 rw[k2]at d3
 have he1:(bs p.rest).toList.isEmpty=false:=by
  have:=fun h=>k3 (u5.out.1 h)
  simpa using this
 have cX:=h_ (show R=none by rw[HR.out,if_pos (by simp[k3])])
 clear k1 k2 k3
 go_wp2_with fail
 rw[cX.out]
 exact⟨rfl,rfl,B3.out⟩

structure Bs (l:List Bytes):Prop where
 le:l.length<=307200000
 all:∀ x∈l,List.length x<=1024000000
theorem um (u b:Url):(eV u b).path=b.path:=by unfold eV;split <;>rfl
theorem lw (u b:Url):(eV u b).host=u.host:=by unfold eV;split <;>rfl
theorem yh (bu:Url) (bv:Value) (p:jP) (w:World) (h8:bu.host.six.length=8) (hbv:Sl w.heap.size w bv (bu.path.map S)) (hbs:Bs bu.path) (hr:Rs p.rest) (hq:p.q.length<=307200000) (hf:p.f.length<=307200000) (hE:Env w):Calls prog 103 #[.agg (ah bv bu),.agg (aT p)] w (yV w (pF bu p)):=by
 have HST:=h_ (fun W=>m9 bu.aC p W (by omega) (by omega))
 have gF:=h_ (fun W=>fq bu.aC W)
 have hsl:=fun W=>jZ bu.aC p.rest W (by have:=hr.l;omega)
 have Oi:=h_ (fun W=>nR bu.aC p.rest W (by have:=hr.l;omega))
 obtain⟨us,lG⟩:=ap (cQ bu.aC p)
 have Y1:us.host.six.length=8:=by rw[lG];rfl
 have hsc:us.aC=bu.aC:=by rw[lG];rfl
 have hup:us.path=[]:=by rw[lG];rfl
 rw[<-lG]at HST
 obtain⟨R,hR⟩:=ap (pF bu p)
 rw[<-hR]
 unfold pF at hR
 rw[<-lG]at hR
 dsimp only at hR
 have hle:=yn (ep bu.aC) p.rest
 have HE:=h_ hE
 have qU:=h_ hr
 have H8:=h_ h8
 have Ob:=h_ hbv
 have yz:=h_ hbs
 have yB:=h_ Y1
 have rJ:=h_ hsc
 have yC:=h_ hup
 have WU:=h_ lG
 generalize r4 (ep bu.aC) p.rest=n at *
 generalize ep bu.aC=sp at *
 have HSL:=h_ hsl
 have HR:=h_ hR
 obtain⟨t,ht⟩:=ap (bs p.rest)
 have htz:t.size=p.rest.length:=by rw[ht,aB]
 have HT:=h_ ht
 have rD:t.extract 1 t.size=bs (p.rest.drop 1):=by rw[ht];exact gn p.rest 1 _ (aB p.rest)
 have nY:t.extract 2 t.size=bs (p.rest.drop 2):=by rw[ht];exact gn p.rest 2 _ (aB p.rest)
 obtain⟨N,hN⟩:=ap (t.size)
 have LP:t.size=N:=hN.symm
 rw[LP]at rD nY
 have ZC:n<=N:=by omega
 have TH:=h_ rD
 have Jj:=h_ nY
 have yO:=h_ ZC
 have HTZ:=h_ htz
 clear h8 hbv hbs hr hq hf hE hsl Y1 hsc hup hR hle lG ht rD nY hN ZC htz
 go_enter func103,ntmps103
 go_upto_region 1 with(first
  |(refine aE rfl 30 rfl _ _ (cD _) ?_)
  |fail)
 obtain⟨w3,hw3,hz3,hb,k1,k2,k3⟩:=three w bv bu p
 try rw[show((w.alloc (.cells (ah bv bu) 30)).alloc (.cells (aT p) 68)).heap.size=w.heap.size+2 by simp]
 rw[hw3]
 clear hw3
 obtain⟨br,hbr⟩:=ap (w.heap.size+2)
 obtain⟨bx,hbx⟩:=ap (w.heap.size+1)
 obtain⟨bb,hbb⟩:=ap (w.heap.size)
 rw[<-hbr]at k3
 rw[<-hbx]at k2
 rw[<-hbb]at k1
 rw[<-hbr,<-hbx,<-hbb]
 have gJ:=h_ (show w.heap.size<=br by omega)
 have lW:=h_ hbb
 have B3:=h_ hb
 have V3:=h_ k1
 have X3:=h_ k2
 have R3:=h_ k3
 have HD:=h_ (show bb<bx∧bx<br by omega)
 clear hz3 hb k1 k2 k3 hbr hbx hbb
 have c0:=V3.out.ak (qP bv bu H8.out).aC
 go_upto_region 2 with(first
  |(refine jq rfl (.tmp 3) rfl bx p X3.out rfl ?_)
  |(go_at_call 98;refine(HST.out _).mono ?_;rintro e w4 ⟨rfl,hb⟩;have eZ:=h_ hb;clear hb)
  |(refine aE rfl 30 rfl _ _ (cD _) ?_)
  |(refine cN rfl (.tmp 5) (.tmp 10) rfl aD us yB.out rfl rfl rfl rfl ?_;intro w5 hh hb;have I5:=h_ (OB.of (w0:=w) hh (aq B3.out.size eZ.out.size) (fJ (fJ B3.out eZ.out) hb));have K5:=h_ (show K3 bb bx br w4.heap.size bv bu p w5 from⟨(V3.out.keep eZ.out).keep hb,(X3.out.keep eZ.out).keep hb,(R3.out.keep eZ.out).keep hb,cj (aP V3.out.lt eZ.out.size),cj (aP X3.out.lt eZ.out.size),cj (aP R3.out.lt eZ.out.size)⟩);have iH:=h_ (show br<w4.heap.size+1 from p7 (aP R3.out.lt eZ.out.size));have pT:=h_ (show w.heap.size<=w4.heap.size+1 from pZ (aq B3.out.size eZ.out.size));clear hh hb)
  |fail)
 obtain⟨b,hbb⟩:=ap (w4.heap.size)
 rw[<-hbb]at I5 K5 iH pT ⊢
 clear c0 hbb
 have c0:=I5.out.ak (qP aD us yB.out).aC
 rw[rJ.out]at c0
 have d2:=K5.out.cx.ak (j:=2) (v:=.string (bs p.rest)) rfl
 rw[<-HT.out]at d2
 rw[<-HT.out]at HSL Oi
 have HAS:=h_ (fun(k:Nat) W (i:OB w b 30 (ah aD us) W)=>rN w b us (p.rest.drop k) W i yB.out yC.out (by have:=qU.out.l;rw[ai];omega) (qU.out.a _ k) (HE.out.below i.bq))
 have j6:=h_ (show(takeA us bu).host.six.length=8 from H8.out)
 have TR:=h_ (show(eV (takeA us bu) bu).host.six.length=8 by rw[lw];exact H8.out)
 have SC:=h_ (fun(W:World) (v:Value) (x:Url) (i:OB w b 30 (ah v x) W) (h:x.host.six.length=8) (hs:x.aC=bu.aC) (k:K3 bb bx br b bv bu p W)=>(show W.cell? ⟨b,0,none⟩=some (S bu.aC)∧W.cell? ⟨bx,2,none⟩=some (.string t)∧W.cell? ⟨bb,18,none⟩=some bv from⟨by rw[i.ak (qP v x h).aC,hs],by rw[HT.out];exact k.cx.ak rfl,k.cb.ak (qP bv bu H8.out).path⟩))
 have hcs:(2<=n∧sp=true)∨(2<=n∧sp=false)∨n=1∨n=0:=by cases sp <;>simp <;>omega
 rcases hcs with⟨hn,rfl⟩|⟨hn,rfl⟩|rfl|rfl
 ·have oN:=h_ (show R=iI us (p.rest.drop n) by rw[HR.out,if_pos ⟨hn,rfl⟩])
  have Xs:=h_ (fun W i=>HAS.out n W i)
  have hni:(2:Int)<=n:=by omega
  clear hn
  go_upto_region 6 with(first
   |(go_at_call 125;refine(HSL.out _).mono ?_;rintro e w6 ⟨rfl,hw⟩;subst hw)
   |(go_at_call 96;refine(gF.out _).mono ?_;rintro e w6 ⟨rfl,hw⟩;subst hw)
   |fail)
  cases hO:iI us (p.rest.drop n)with
  |none =>
   have cX:=h_ (show R=none by rw[oN.out,hO])
   have pX:=h_ (fun W i=>(show Calls prog 99 #[.pointer (some ⟨b,0,none⟩),S ((p.rest.drop n))] W fun e w'=>e=AU∧Below w.heap.size w w'∧Tn b W w' from by have h:=Xs.out W i;rw[hO]at h;exact h))
   clear hO
   go_wp2_with (first
    |(go_at_call 100;refine(Oi.out _).mono ?_;rintro e w6 ⟨rfl,hw⟩;subst hw)
    |(go_at_call 99;refine(pX.out _ I5.out).mono ?_;rintro e w7 ⟨rfl,hb,_⟩;have B7:=h_ hb;clear hb)
    |fail)
   rw[cX.out]
   exact⟨rfl,rfl,B7.out⟩
  |some u =>
   have cX:=h_ (show R=some u by rw[oN.out,hO])
   have pX:=h_ (fun W i=>(show Calls prog 99 #[.pointer (some ⟨b,0,none⟩),S ((p.rest.drop n))] W fun e w'=>e=.returned (.tuple #[])∧(∃pv,OB w b 30 (ah pv u) w'∧w'.ownsRow W.heap.size 9 1 pv u.path.length (Strs u.path))∧Tn b W w' from by have h:=Xs.out W i;rw[hO]at h;exact h))
   have U8:=h_ (iJ hO)
   clear hO
   go_upto_region 15 with(first
    |(go_at_call 100;refine(Oi.out _).mono ?_;rintro e w6 ⟨rfl,hw⟩;subst hw)
    |(go_at_call 99;refine(pX.out _ I5.out).mono ?_;rintro e w7 ⟨rfl,⟨pv,i7,o7⟩,t7⟩;have I7:=h_ i7;have O7:=h_ (aU o7 (show b+1<=_ from I5.out.lt));have K7:=h_ (K5.out.tn t7);clear i7 o7 t7)
    |fail)
   go_wp2_with (first
    |(refine eh rfl (.tmp 5) rfl w b pv u I7.out U8.out rfl ?_)
    |(refine eG rfl (.tmp 4) (.tmp 70) rfl w br (OB.of K7.out.cr gJ.out I7.out.bq) pv u U8.out (aS O7.out) rfl rfl ?_;intro wZ iZ tZ;have IZ:=h_ iZ;have OZ:=h_ (aU (tZ.row O7.out iH.out) pT.out);clear iZ tZ)
    |fail)
   rw[cX.out]
   exact dL (u:=u) results103 U8.out rfl IZ.out ⟨pv,rfl,OZ.out,IZ.out.bq⟩
 ·have oN:=h_ (show R=iI us (p.rest.drop 2) by rw[HR.out,if_neg (by simp),if_pos hn])
  have Xr:=h_ (fun W i=>HAS.out 2 W i)
  have hni:(2:Int)<=n:=by omega
  have Y9:2<=N:=by have:=yO.out;omega
  have a3L:(2:Int)<=N:=by omega
  have nY:=Jj.out
  clear hn
  go_upto_region 7 with(first
   |(go_at_call 125;refine(HSL.out _).mono ?_;rintro e w6 ⟨rfl,hw⟩;subst hw)
   |(go_at_call 96;refine(gF.out _).mono ?_;rintro e w6 ⟨rfl,hw⟩;subst hw)
   |fail)
  cases hO:iI us (p.rest.drop 2)with
  |none =>
   have cX:=h_ (show R=none by rw[oN.out,hO])
   have pX:=h_ (fun W i=>(show Calls prog 99 #[.pointer (some ⟨b,0,none⟩),S ((p.rest.drop 2))] W fun e w'=>e=AU∧Below w.heap.size w w'∧Tn b W w' from by have h:=Xr.out W i;rw[hO]at h;exact h))
   clear hO
   go_wp2_with (first
    |(go_at_call 99;refine(pX.out _ I5.out).mono ?_;rintro e w7 ⟨rfl,hb,_⟩;have B7:=h_ hb;clear hb)
    |fail)
   rw[cX.out]
   exact⟨rfl,rfl,B7.out⟩
  |some u =>
   have cX:=h_ (show R=some u by rw[oN.out,hO])
   have pX:=h_ (fun W i=>(show Calls prog 99 #[.pointer (some ⟨b,0,none⟩),S ((p.rest.drop 2))] W fun e w'=>e=.returned (.tuple #[])∧(∃pv,OB w b 30 (ah pv u) w'∧w'.ownsRow W.heap.size 9 1 pv u.path.length (Strs u.path))∧Tn b W w' from by have h:=Xr.out W i;rw[hO]at h;exact h))
   have U8:=h_ (iJ hO)
   clear hO
   go_upto_region 15 with(first
    |(go_at_call 99;refine(pX.out _ I5.out).mono ?_;rintro e w7 ⟨rfl,⟨pv,i7,o7⟩,t7⟩;have I7:=h_ i7;have O7:=h_ (aU o7 (show b+1<=_ from I5.out.lt));have K7:=h_ (K5.out.tn t7);clear i7 o7 t7)
    |fail)
   go_wp2_with (first
    |(refine eh rfl (.tmp 5) rfl w b pv u I7.out U8.out rfl ?_)
    |(refine eG rfl (.tmp 4) (.tmp 70) rfl w br (OB.of K7.out.cr gJ.out I7.out.bq) pv u U8.out (aS O7.out) rfl rfl ?_;intro wZ iZ tZ;have IZ:=h_ iZ;have OZ:=h_ (aU (tZ.row O7.out iH.out) pT.out);clear iZ tZ)
    |fail)
   rw[cX.out]
   exact dL (u:=u) results103 U8.out rfl IZ.out ⟨pv,rfl,OZ.out,IZ.out.bq⟩
 ·obtain⟨PP,GH⟩:=ap (cL bu.aC [] (p.rest.drop 1))
  have cX:=h_ (show R=some {takeA us bu with path:=PP} by rw[HR.out,if_neg (by omega),if_neg (by omega),if_pos rfl,GH])
  obtain⟨s1,hs1⟩:=ap (bs (p.rest.drop 1))
  have kJ:=h_ (fun W=>(show Calls prog 129 #[S bu.aC,aD,.string s1] W (fd W 9 (Strs PP))from by rw[GH,hs1];exact fp bu.aC (p.rest.drop 1) [] aD W Sl.nil (by have:=qU.out.l;rw[ai];omega) (by simp) (by simp)))
  have hN1:1<=N:=yO.out
  have PR:(1:Int)<=N:=by omega
  have rD:=TH.out
  rw[<-hs1]at rD
  clear GH hs1
  go_upto_region 11 with(first
   |(go_at_call 125;refine(HSL.out _).mono ?_;rintro e w6 ⟨rfl,hw⟩;subst hw)
    |(refine eh rfl (.tmp 2) rfl w bb bv bu (OB.of K5.out.cb (bA lW.out.symm) I5.out.bq) H8.out rfl ?_)
    |(go_at_call 137;refine(lu w b aD bv us bu _ I5.out yB.out H8.out).mono ?_;rintro e w7 ⟨rfl,i7,t7⟩;have I7:=h_ i7;have K7:=h_ (K5.out.tn t7);have e0:=(SC.out _ _ _ I7.out j6.out rJ.out K7.out).2.1;clear i7 t7)
   |fail)
  clear c0 d2
  have I8:=h_ (I7.out.below (aJ (aG _)))
  have K8:=h_ (K7.out.below (aJ (aG _)))
  have FF:=h_ (SC.out _ _ _ I8.out j6.out rJ.out K8.out)
  refine wp_region_held_drew (S:=fun W=>W.cell? ⟨b,0,none⟩=some (S bu.aC)∧W.cell? ⟨bx,2,none⟩=some (.string t)∧W.cell? ⟨bb,18,none⟩=some bv) (by kernel_rfl) (by with_reducible first|exact pV.out|exact FG.out|exact FF.out) (fun hHeld=>?_)
  refine tq 0 rfl ?_ (fun wS hSw=>?_) ?_
  rotate_left
  ·(try dsimp only at hSw);go_simp;first|done|with_reducible rfl
  try simp only[Act.put,aK,aL,aM]
  refine tq 1 rfl ?_ (fun wS hSw=>?_) ?_
  rotate_left
  ·(try dsimp only at hSw)
   refine aF 9 (.tmp 55) ?_ b 0 (S bu.aC) _ underlying9 rfl ?_ ?_
   ·rfl
   ·rfl
   exact hSw.1
  try simp only[Act.put,aK,aL,aM]
  refine tq 2 rfl ?_ (fun wS hSw=>?_) ?_
  rotate_left
  ·(try dsimp only at hSw);go_simp;first|done|with_reducible rfl
  try simp only[Act.put,aK,aL,aM]
  refine tq 3 rfl ?_ (fun wS hSw=>?_) ?_
  rotate_left
  ·(try dsimp only at hSw)
   refine aF 9 (.tmp 57) ?_ bx 2 (.string t) _ underlying9 rfl ?_ ?_
   ·rfl
   ·rfl
   exact hSw.2.1
  try simp only[Act.put,aK,aL,aM]
  refine tq 4 rfl ?_ (fun wS hSw=>?_) ?_
  rotate_left
  ·(try dsimp only at hSw);go_simp;first|done|with_reducible rfl
  try simp only[Act.put,aK,aL,aM]
  refine rn 5 (by kernel_rfl) rfl (by rfl) (fun K hK=>?_)
  go_simp
  refine(kJ.out _).mono ?_
  rintro e w9 ⟨pv,rfl,o9,hb⟩
  have O9:=h_ (aU (eu o9) (show b+1<=_ from I8.out.lt));have I9:=h_ (I8.out.below hb);have K9:=h_ (K8.out.below hb)
  have FG:=h_ (SC.out _ _ _ I9.out j6.out rJ.out K9.out)
  clear o9 hb
  refine hK.out _ _ ?_ (fun hHeld=>?_)
  ·with_reducible first|exact pV.out|exact FG.out|exact FF.out
  clear hK K
  try simp only[Act.put,aK,aL,aM]
  refine tq 6 rfl ?_ (fun wS hSw=>?_) ?_
  rotate_left
  ·(try dsimp only at hSw);go_simp;first|done|with_reducible rfl
  try simp only[Act.put,aK,aL,aM]
  refine rn 7 (by kernel_rfl) rfl (by rfl) (fun K hK=>?_)
  refine fa 28 (.tmp 61) (.tmp 60) rfl w b 30 (ah aD (takeA us bu)) I9.out 18 pv rfl rfl (eX j6.out (by decide)) dy (aS O9.out) (ah pv {takeA us bu with path:=PP}) ((eW aD (takeA us bu) j6.out).path _ _) ?_
  intro wV pl t10
  have lJ:=h_ pl;have rL:=h_ (K9.out.tn t10);have lZ:=h_ (t10.row O9.out (bB b))
  have pV:=h_ (SC.out _ _ {takeA us bu with path:=PP} lJ.out j6.out rJ.out rL.out)
  clear pl t10
  refine hK.out _ _ ?_ (fun hHeld=>?_)
  ·with_reducible first|exact pV.out|exact FG.out|exact FF.out
  clear hK K
  try simp only[Act.put]
  refine wpAnyH_done (by kernel_rfl) ?_ _
  go_wp2_with (first
   |(refine eh rfl (.tmp 5) rfl w b pv {takeA us bu with path:=PP} lJ.out j6.out rfl ?_)
   |(refine eG rfl (.tmp 4) (.tmp 70) rfl w br (OB.of rL.out.cr gJ.out lJ.out.bq) pv {takeA us bu with path:=PP} j6.out (aS lZ.out) rfl rfl ?_;intro wZ iZ tZ;have IZ:=h_ iZ;have OZ:=h_ (aU (tZ.row lZ.out iH.out) pT.out);clear iZ tZ)
   |fail)
  rw[cX.out]
  exact dL (u:={takeA us bu with path:=PP}) results103 j6.out rfl IZ.out ⟨pv,rfl,OZ.out,IZ.out.bq⟩
 have hN0:=yO.out
 by_cases hrest:p.rest=[]
 ·have cX:=h_ (show R=some (eV (takeA us bu) bu) by rw[HR.out,if_neg (by omega),if_neg (by omega),if_neg (by omega),if_pos hrest])
  have he1:t.toList.isEmpty=true:=by rw[HT.out,au,hrest];rfl
  clear hrest hN0
  go_upto_region 14 with(first
   |(go_at_call 125;refine(HSL.out _).mono ?_;rintro e w6 ⟨rfl,hw⟩;subst hw)
   |(refine eh rfl (.tmp 2) rfl w bb bv bu (OB.of K5.out.cb (bA lW.out.symm) I5.out.bq) H8.out rfl ?_)
   |(go_at_call 137;refine(lu w b aD bv us bu _ I5.out yB.out H8.out).mono ?_;rintro e w7 ⟨rfl,i7,t7⟩;have I7:=h_ i7;have K7:=h_ (K5.out.tn t7);have e0:=(SC.out _ _ _ I7.out j6.out rJ.out K7.out).2.1;clear i7 t7)
   |fail)
  clear c0 d2
  go_upto_region 15 with(first
   |(refine eh rfl (.tmp 2) rfl w bb bv bu (OB.of K7.out.cb (bA lW.out.symm) I7.out.bq) H8.out rfl ?_)
   |(go_at_call 130;refine(pN w b aD bv (takeA us bu) bu _ I7.out j6.out H8.out ((Ob.out.below I7.out.bq).more I7.out.bq.size) (by have:=yz.out.le;omega)).mono ?_;rintro e w8 ⟨rfl,pv,i8,o8,t8⟩;have I8:=h_ i8;have O8:=h_ (aU o8 (show b+1<=_ from I7.out.lt));have K8:=h_ (K7.out.tn t8);clear i8 o8 t8)
   |fail)
  go_wp2_with (first
   |(refine eh rfl (.tmp 5) rfl w b pv (eV (takeA us bu) bu) I8.out TR.out rfl ?_)
   |(refine eG rfl (.tmp 4) (.tmp 70) rfl w br (OB.of K8.out.cr gJ.out I8.out.bq) pv (eV (takeA us bu) bu) TR.out (aS O8.out) rfl rfl ?_;intro wZ iZ tZ;have IZ:=h_ iZ;have OZ:=h_ (aU (tZ.row O8.out iH.out) pT.out);clear iZ tZ)
   |fail)
  rw[cX.out]
  exact dL (u:=(eV (takeA us bu) bu)) results103 TR.out rfl IZ.out ⟨pv,rfl,by rw[um];exact OZ.out,IZ.out.bq⟩
 obtain⟨PP,GH⟩:=ap (cL bu.aC (bU bu.aC bu.path) p.rest)
 have cX:=h_ (show R=some {takeA us bu with path:=PP} by rw[HR.out,if_neg (by omega),if_neg (by omega),if_neg (by omega),if_neg hrest,GH])
 have he1:t.toList.isEmpty=false:=by
  have:¬ t.toList=[]:=by rw[HT.out,au];exact hrest
  simpa using this
 have kJ:=h_ (fun W v (h:Sl W.heap.size W v ((bU bu.aC bu.path).map S))=>(show Calls prog 129 #[S bu.aC,v,.string t] W (fd W 9 (Strs PP))from by rw[GH,HT.out];exact fp bu.aC p.rest (bU bu.aC bu.path) v W h qU.out.l (by have:=qJ bu.aC bu.path;have:=yz.out.le;omega) (fun x hx=>yz.out.all x (jb hx))))
 clear GH hrest hN0
 go_upto_region 4 with(first
  |(go_at_call 125;refine(HSL.out _).mono ?_;rintro e w6 ⟨rfl,hw⟩;subst hw)
  |(refine eh rfl (.tmp 2) rfl w bb bv bu (OB.of K5.out.cb (bA lW.out.symm) I5.out.bq) H8.out rfl ?_)
  |(go_at_call 137;refine(lu w b aD bv us bu _ I5.out yB.out H8.out).mono ?_;rintro e w7 ⟨rfl,i7,t7⟩;have I7:=h_ i7;have K7:=h_ (K5.out.tn t7);have e0:=(SC.out _ _ _ I7.out j6.out rJ.out K7.out).2.1;clear i7 t7)
  |fail)
 clear c0 d2
 have I8:=h_ (I7.out.below (aJ (aG _)))
 have K8:=h_ (K7.out.below (aJ (aG _)))
 have FF:=h_ (SC.out _ _ _ I8.out j6.out rJ.out K8.out)
 refine wp_region_held_drew (S:=fun W=>W.cell? ⟨b,0,none⟩=some (S bu.aC)∧W.cell? ⟨bx,2,none⟩=some (.string t)∧W.cell? ⟨bb,18,none⟩=some bv) (by kernel_rfl) (by with_reducible first|exact xc.out|exact pV.out|exact FG.out|exact FF.out) (fun hHeld=>?_)
 refine tq 0 rfl ?_ (fun wS hSw=>?_) ?_
 rotate_left
 ·(try dsimp only at hSw);go_simp;first|done|with_reducible rfl
 try simp only[Act.put,aK,aL,aM]
 refine tq 1 rfl ?_ (fun wS hSw=>?_) ?_
 rotate_left
 ·(try dsimp only at hSw)
  refine aF 9 (.tmp 18) ?_ b 0 (S bu.aC) _ underlying9 rfl ?_ ?_
  ·rfl
  ·rfl
  exact hSw.1
 try simp only[Act.put,aK,aL,aM]
 refine tq 2 rfl ?_ (fun wS hSw=>?_) ?_
 rotate_left
 ·(try dsimp only at hSw);go_simp;first|done|with_reducible rfl
 try simp only[Act.put,aK,aL,aM]
 refine tq 3 rfl ?_ (fun wS hSw=>?_) ?_
 rotate_left
 ·(try dsimp only at hSw)
  refine aF 9 (.tmp 20) ?_ b 0 (S bu.aC) _ underlying9 rfl ?_ ?_
  ·rfl
  ·rfl
  exact hSw.1
 try simp only[Act.put,aK,aL,aM]
 refine tq 4 rfl ?_ (fun wS hSw=>?_) ?_
 rotate_left
 ·(try dsimp only at hSw);go_simp;first|done|with_reducible rfl
 try simp only[Act.put,aK,aL,aM]
 refine tq 5 rfl ?_ (fun wS hSw=>?_) ?_
 rotate_left
 ·(try dsimp only at hSw)
  refine aF 28 (.tmp 22) ?_ bb 18 bv _ underlying28 rfl ?_ ?_
  ·rfl
  ·rfl
  exact hSw.2.2
 try simp only[Act.put,aK,aL,aM]
 refine tq 7 rfl ?_ (fun wS hSw=>?_) ?_
 rotate_left
 ·(try dsimp only at hSw);go_simp;first|done|with_reducible rfl
 try simp only[Act.put,aK,aL,aM]
 refine tq 8 rfl ?_ (fun wS hSw=>?_) ?_
 rotate_left
 ·(try dsimp only at hSw)
  refine aF 9 (.tmp 25) ?_ bx 2 (.string t) _ underlying9 rfl ?_ ?_
  ·rfl
  ·rfl
  exact hSw.2.1
 try simp only[Act.put,aK,aL,aM]
 refine rn 6 (by kernel_rfl) rfl (by rfl) (fun K hK=>?_)
 go_simp
 refine(rm bu.aC bu.path bv _ ((Ob.out.below I8.out.bq).more I8.out.bq.size) (by have:=yz.out.le;omega) yz.out.all).mono ?_
 rintro e w9 ⟨sv,rfl,o9,hb⟩
 have O9:=h_ (Sl.bL o9);have I9:=h_ (I8.out.below hb);have K9:=h_ (K8.out.below hb)
 have FG:=h_ (SC.out _ _ _ I9.out j6.out rJ.out K9.out)
 clear o9 hb
 refine hK.out _ _ ?_ (fun hHeld=>?_)
 ·with_reducible first|exact xc.out|exact pV.out|exact FG.out|exact FF.out
 clear hK K
 try simp only[Act.put,aK,aL,aM]
 refine rn 9 (by kernel_rfl) rfl (by rfl) (fun K hK=>?_)
 go_simp
 refine(kJ.out _ _ O9.out).mono ?_
 rintro e wV ⟨pv,rfl,o10,hb⟩
 have lZ:=h_ (aU (eu o10) (show b+1<=_ from I9.out.lt));have lJ:=h_ (I9.out.below hb);have rL:=h_ (K9.out.below hb)
 have pV:=h_ (SC.out _ _ _ lJ.out j6.out rJ.out rL.out)
 clear o10 hb
 refine hK.out _ _ ?_ (fun hHeld=>?_)
 ·with_reducible first|exact xc.out|exact pV.out|exact FG.out|exact FF.out
 clear hK K
 try simp only[Act.put,aK,aL,aM]
 refine tq 10 rfl ?_ (fun wS hSw=>?_) ?_
 rotate_left
 ·(try dsimp only at hSw);go_simp;first|done|with_reducible rfl
 try simp only[Act.put,aK,aL,aM]
 refine rn 11 (by kernel_rfl) rfl (by rfl) (fun K hK=>?_)
 refine fa 28 (.tmp 28) (.tmp 27) rfl w b 30 (ah aD (takeA us bu)) lJ.out 18 pv rfl rfl (eX j6.out (by decide)) dy (aS lZ.out) (ah pv {takeA us bu with path:=PP}) ((eW aD (takeA us bu) j6.out).path _ _) ?_
 intro Ow i11 t11
 have u9:=h_ i11;have Pa:=h_ (rL.out.tn t11);have Ol:=h_ (t11.row lZ.out (bB b))
 have xc:=h_ (SC.out _ _ {takeA us bu with path:=PP} u9.out j6.out rJ.out Pa.out)
 clear i11 t11
 refine hK.out _ _ ?_ (fun hHeld=>?_)
 ·with_reducible first|exact xc.out|exact pV.out|exact FG.out|exact FF.out
 clear hK K
 try simp only[Act.put]
 refine wpAnyH_done (by kernel_rfl) ?_ _
 go_wp2_with (first
  |(refine eh rfl (.tmp 5) rfl w b pv {takeA us bu with path:=PP} u9.out j6.out rfl ?_)
  |(refine eG rfl (.tmp 4) (.tmp 70) rfl w br (OB.of Pa.out.cr gJ.out u9.out.bq) pv {takeA us bu with path:=PP} j6.out (aS Ol.out) rfl rfl ?_;intro wZ iZ tZ;have IZ:=h_ iZ;have OZ:=h_ (aU (tZ.row Ol.out iH.out) pT.out);clear iZ tZ)
  |fail)
 rw[cX.out]
 exact dL (u:={takeA us bu with path:=PP}) results103 j6.out rfl IZ.out ⟨pv,rfl,OZ.out,IZ.out.bq⟩
end Go.Proofs.YtmndlfglgcioeaaGreatDoor
