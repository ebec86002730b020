/- RdsF RdsG RdsH RdsI RdsJ Sm12: joined. -/
import Derived.Test.YtmndlfglgcioeaaGreatDoorGRdsB
import Derived.Test.YtmndlfglgcioeaaGreatDoorGRfrD
import Derived.Test.YtmndlfglgcioeaaGreatDoorGWlkH
import Derived.Test.YtmndlfglgcioeaaGreatDoorGWlkY
import Derived.Test.YtmndlfglgcioeaaGreatDoorGSixF
set_option maxHeartbeats 40000000
namespace Go.Proofs.YtmndlfglgcioeaaGreatDoor
open Tryz
open Go.RowKit
set_option maxRecDepth 10000
theorem dZ {P:Program} {ops:Array Oper} {Q:Exit->Act->World->Prop} {l:List Oper} {a:Act} {w:World} (h:wpList P ops Q l a w):wpList P ops Q l a w:=h
abbrev bj (v:Value) (d:Bytes):Array Value:=#[v,S d]
theorem pE:(prog.info? 35).map (·.size)=some 2:=by kernel_rfl
theorem Qf:(prog.info? 33).map (·.size)=some 1:=by kernel_rfl
theorem ji (w:World):(Instr.alloc 35 true (Value.tuple #[])).run prog w=.ok (.pointer (some ⟨w.heap.size,0,none⟩)) (w.alloc (.cells (bj aD []) 35)):=by kernel_rfl
theorem Tn.tT {b:Nat} {w w':World} (h:Tn b w w') {base e s n:Nat} {v:Value} {xs:List Value} (i:w.ownsRow base e s v n xs) (hb:b<base):w'.ownsRow base e s v n xs:=by
 refine⟨i.1,?_⟩
 rcases i.2 with h0|⟨g,cap,cur,e1,hg,hh,hr⟩
 ·exact .inl h0
 exact .inr ⟨g,cap,cur,e1,hg,(h.k g (bg.1 hh).1 (by omega)).trans hh,hr⟩
theorem dU.tn {b:Nat} {w w':World} {base:Nat} {v:Value} {l:List gG} (c:dU w base v l) (h:Tn b w w') (hb:b<base):dU w' base v l:=by
 obtain⟨ps,h1,h2,h3⟩:=c
 exact⟨ps,h1,h.tT h2 hb,fun p hp=>⟨(h3 p hp).six,h.tT (h3 p hp).path hb,h.tT (h3 p hp).words hb⟩⟩
theorem dU.one' {W:World} {base:Nat} {v:Value} {l:List gG} (c:dU W base v l):v.oneCell'=true:=by
 obtain⟨a,cp,rfl⟩:=c.len
 rfl
section
variable {ops:Array Oper} {rest:List Oper} {o:Oper} {a:Act} {w:World} {Q:Exit->Act->World->Prop}
theorem vE (hgd:o.guard=none) (x:Operand) (ho:o.op=.load 35 x) (w0:World) (b:Nat) (v:Value) (d:Bytes) (i:OB w0 b 35 (bj v d) w) (hx:a.eval x=.pointer (some ⟨b,0,none⟩))
  (K:wpList prog ops Q rest (a.put o.dst (.agg (bj v d))) w):wpList prog ops Q (o::rest) a w :=
 zP hgd _ x ho w0 b 35 (bj v d) i _ hx underlying35 rfl pE K
theorem vZ (hgd:o.guard=none) (x y:Operand) (ho:o.op=.store 35 x y) (w0:World) (b:Nat) {v0:Value} {d0:Bytes} (i:OB w0 b 35 (bj v0 d0) w) (v:Value) (d:Bytes) (h1:v.oneCell'=true) (hx:a.eval x=.pointer (some ⟨b,0,none⟩)) (hy:a.eval y=.agg (bj v d))
  (K:∀ w',OB w0 b 35 (bj v d) w'->Tn b w w'->wpList prog ops Q rest (a.put o.dst undef) w'):wpList prog ops Q (o::rest) a w :=
 rh hgd _ x y ho w0 b 35 (bj v0 d0) i 0 [v,S d] hx hy (bA rfl) pE (by intro u hu;simp only[aN,ci,or_false]at hu;rcases hu with rfl|rfl;exact h1;rfl) (bj v d) rfl K
theorem yd (hgd:o.guard=none) (x y:Operand) (ho:o.op=.store 33 x y) (w0:World) (b:Nat) {v0:Value} {d:Bytes} (i:OB w0 b 35 (bj v0 d) w) (v:Value) (h1:v.oneCell'=true) (hx:a.eval x=.pointer (some ⟨b,0,none⟩)) (hy:a.eval y=v)
  (K:∀ w',OB w0 b 35 (bj v d) w'->Tn b w w'->wpList prog ops Q rest (a.put o.dst undef) w'):wpList prog ops Q (o::rest) a w :=
 dJ hgd 33 x y ho w0 b 35 (bj v0 d) i 0 v hx hy (by show 0<2;decide) Qf h1 (bj v d) rfl K
end
section
variable {ops:Array Oper} {rest:List Oper} {o:Oper} {a:Act} {w:World} {Q:Exit->Act->World->Prop}
theorem Nh (hgd:o.guard=none) (x y:Operand) (ho:o.op=.store 9 x y) (w0:World) (b:Nat) {v:Value} {d0:Bytes} (i:OB w0 b 35 (bj v d0) w) (d:Bytes) (hx:a.eval x=.pointer (some ⟨b,1,none⟩)) (hy:a.eval y=S d)
  (K:∀ w',OB w0 b 35 (bj v d) w'->Tn b w w'->wpList prog ops Q rest (a.put o.dst undef) w'):wpList prog ops Q (o::rest) a w :=
 dJ hgd 9 x y ho w0 b 35 (bj v d0) i 1 (S d) hx hy (by show 1<2;decide) bF.1 rfl (bj v d) rfl K
theorem EI (hgd:o.guard=none) (x:Operand) (ho:o.op=.load 9 x) (b:Nat) (T:TypeId) (cs:Array Value) (i:CB w b T cs) (k:Nat) (v:Value) (hc:cs[k]? = some v) (hx:a.eval x=.pointer (some ⟨b,k,none⟩)) (K:wpList prog ops Q rest (a.put o.dst v) w):wpList prog ops Q (o::rest) a w :=
 jA hgd v (aF 9 x ho b k v _ underlying9 rfl hx (i.ak hc)) K
theorem SS (hgd:o.guard=none) (x:Operand) (ho:o.op=.load 4 x) (b:Nat) (T:TypeId) (cs:Array Value) (i:CB w b T cs) (k:Nat) (v:Value) (hc:cs[k]? = some v) (hx:a.eval x=.pointer (some ⟨b,k,none⟩)) (K:wpList prog ops Q rest (a.put o.dst v) w):wpList prog ops Q (o::rest) a w :=
 jA hgd v (aF 4 x ho b k v _ underlying4 rfl hx (i.ak hc)) K
theorem ST (hgd:o.guard=none) (x:Operand) (ho:o.op=.load 28 x) (b:Nat) (T:TypeId) (cs:Array Value) (i:CB w b T cs) (k:Nat) (v:Value) (hc:cs[k]? = some v) (hx:a.eval x=.pointer (some ⟨b,k,none⟩)) (K:wpList prog ops Q rest (a.put o.dst v) w):wpList prog ops Q (o::rest) a w :=
 jA hgd v (aF 28 x ho b k v _ underlying28 rfl hx (i.ak hc)) K
theorem YV (hgd:o.guard=none) (x:Operand) (ho:o.op=.load 33 x) (b:Nat) (T:TypeId) (cs:Array Value) (i:CB w b T cs) (k:Nat) (v:Value) (hc:cs[k]? = some v) (hx:a.eval x=.pointer (some ⟨b,k,none⟩)) (K:wpList prog ops Q rest (a.put o.dst v) w):wpList prog ops Q (o::rest) a w :=
 jA hgd v (aF 33 x ho b k v _ underlying33 rfl hx (i.ak hc)) K
end
theorem tP {f:Func} {k:Nat} (hf:f.results=#[.cell k 35]) {tmps:Array Value} {w0 w2:World} {b:Nat} {v:Value} {d:Bytes} {Post:Ending->World->Prop} (hk:tmps.getD k undef=.pointer (some ⟨b,0,none⟩))
  (i:OB w0 b 35 (bj v d) w2) (hP:Post (.returned (.agg (bj v d))) w2) :
  bodyPost prog f Post Exit.ret {tmps:=tmps,defers:=[]} w2:=by
 have h2':tmps[k]?.getD undef=.pointer (some ⟨b,0,none⟩):=by simpa using hk
 have hl:=i.load (P:=prog) 35 _ underlying35 rfl pE
 refine bodyPost_ret (v:=.agg (bj v d)) ?_ rfl hP
 simp[results,hf,asAddr,h2',hl]
def eE (w:World) (r:Rd):Ending->World->Prop:=fun e w'=>∃ v,e=.returned (.agg (bj v r.delay))∧dU w' w.heap.size v r.items∧Below w.heap.size w w'
theorem ng (w:World) (bv:Value) (u:Url):∃ W,((w.alloc (.cells (ah bv u) 30)).alloc (.cells (bj aD []) 35)).alloc (.cells (bj aD []) 35)=W∧W.heap.size=w.heap.size+3 ∧
  CB W w.heap.size 30 (ah bv u)∧OB w (w.heap.size+1) 35 (bj aD []) W∧OB w (w.heap.size+2) 35 (bj aD []) W:=by
 have hx:=CB.new w 30 (ah bv u)
 have hb:=(Below.refl w.heap.size w).alloc (ae _) (.cells (ah bv u) 30)
 obtain⟨w1,hw1⟩:=ap (w.alloc (.cells (ah bv u) 30))
 have hz1:w1.heap.size=w.heap.size+1:=by rw[hw1];simp
 rw[<-hw1]at hx hb ⊢
 have hy:=CB.new w1 35 (bj aD [])
 have hb2:=(Below.refl w1.heap.size w1).alloc (ae _) (.cells (bj aD []) 35)
 obtain⟨w2,hw2⟩:=ap (w1.alloc (.cells (bj aD []) 35))
 have hz2:w2.heap.size=w1.heap.size+1:=by rw[hw2];simp
 rw[<-hw2]at hy hb2 ⊢
 have hv:=CB.new w2 35 (bj aD [])
 have hb3:=(Below.refl w2.heap.size w2).alloc (ae _) (.cells (bj aD []) 35)
 have hz3:(w2.alloc (.cells (bj aD []) 35)).heap.size=w2.heap.size+1:=by simp
 have s2:=fJ hb hb2
 have s3:=fJ s2 hb3
 rw[hz1]at hy
 rw[hz2,hz1]at hv
 exact⟨_,rfl,by rw[hz3,hz2,hz1],(hx.keep hb2).keep hb3,OB.of (hy.keep hb3) (fb _) s3,OB.of hv (by omega) s3⟩
theorem vK (bu:Url) (bv:Value) (s:Bytes) (w:World) (h8:bu.host.six.length=8) (hbv:Sl w.heap.size w bv (bu.path.map S)) (hbs:Bs bu.path) (hs:s.length<=1048576) (hE:Env w) :
  Calls prog 11 #[.int .i64 1,.agg (ah bv bu),.string (bs s)] w (eE w ⟨[dG bu s []],[]⟩):=by
 have yL:=h_ (fun W (hb:Below w.heap.size w W)=>mt bu bv s W h8 ((hbv.below hb).more hb.size) hbs hs (hE.below hb))
 have H8:=h_ h8
 obtain⟨z,hz⟩:=ap (bs s)
 rw[<-hz]at yL ⊢
 obtain⟨it,hit⟩:=ap (dG bu s [])
 rw[<-hit]at yL ⊢
 have HWD:=h_ (show it.words=[] by rw[hit];unfold dG;split <;>rfl)
 clear hz hs hE h8 hbv hbs hit
 obtain⟨W,hw,hsz,k1,k2,k3⟩:=ng w bv bu
 have K1:=h_ k1;have K2:=h_ k2;have K3:=h_ k3;have HW:=h_ hw;have e7:=h_ hsz
 clear k1 k2 k3 hw hsz
 go_enter func11,ntmps11
 go_upto_region 2 with(first
  |((with_reducible refine dZ ?_);refine aE rfl 35 rfl _ _ (ji _) ?_)
  |fail)
 rw[HW.out]
 have HB2:=h_ (show w.heap.size+2<W.heap.size by have:=e7.out;omega)
 go_upto_region 23 with(first
  |((with_reducible refine dZ ?_);refine dB (by rfl) (.tmp 4) rfl _ bv bu H8.out rfl K1.out ?_)
  |(go_at_call 29;refine(yL.out _ K2.out.bq).mono ?_;rintro e w3 ⟨pv,rfl,i8,oo,hb⟩;have I8:=h_ i8;have OO:=h_ oo;have HB3:=h_ hb;clear hb oo i8)
  |((with_reducible refine dZ ?_);refine rQ rfl (.tmp 19) rfl pv aD it I8.out rfl ?_;have hb4:=(Below.refl w3.heap.size w3).alloc (ae _) (.cells (bN pv aD it) 41);have Mf:=dU.one (base:=W.heap.size) w3 (pv:=pv) (wv:=aD) (i:=it) ⟨I8.out,OO.out,by rw[HWD.out];exact World.ownsRow_nil _ _ _ _⟩ HB3.out.size;obtain⟨g,hg⟩:∃ g,g=w3.heap.size:=⟨_,rfl⟩;obtain⟨w4,hw4⟩:∃ w4,w4=w3.alloc (.cells (bN pv aD it) 41):=⟨_,rfl⟩;rw[<-hw4,<-hg]at Mf;rw[<-hw4]at hb4;rw[<-hw4,<-hg];have J3:=h_ ((K3.out.below HB3.out).below hb4);have J2:=h_ ((K2.out.below HB3.out).below hb4);have FS:=h_ Mf;clear hw4 hg hb4 Mf)
  |((with_reducible refine dZ ?_);refine yd rfl (.tmp 21) (.tmp 20) rfl w (w.heap.size+2) J3.out _ rfl rfl rfl ?_;intro w5 i5 t5;have L3:=h_ i5;have FT:=h_ (FS.out.tn t5 HB2.out);have L2:=h_ (J2.out.tn t5 (by omega) i5);clear i5 t5)
  |fail)
 clear J2 J3 FS OO HB3 yL K1 K2 K3
 go_wp2_with (first
  |((with_reducible refine dZ ?_);refine vE rfl (.tmp 7) rfl w (w.heap.size+2) _ [] L3.out rfl ?_)
  |((with_reducible refine dZ ?_);refine vZ rfl (.tmp 6) (.tmp 76) rfl w (w.heap.size+1) L2.out _ [] rfl rfl rfl ?_;intro w6 i6 t6;have L6:=h_ i6;have OY:=h_ (FT.out.tn t6 (Nat.lt_of_le_of_lt (fb _) HB2.out));clear i6 t6)
  |fail)
 exact tP results11 rfl L6.out ⟨_,rfl,OY.out.base (by have:=e7.out;omega),L6.out.bq⟩
theorem rc (k:Int) (h1:¬ k=1) (h2:¬ k=2) (h3:¬ k=3) (bu:Url) (bv:Value) (z:ByteArray) (w:World) :
  Calls prog 11 #[.int .i64 k,.agg (ah bv bu),.string z] w (eE w ⟨[],[]⟩):=by
 have q1:(k==1)=false:=by simp[h1]
 have q2:(k==2)=false:=by simp[h2]
 have q3:(k==3)=false:=by simp[h3]
 obtain⟨W,hw,hsz,k1,k2,k3⟩:=ng w bv bu
 have K2:=h_ k2;have K3:=h_ k3;have HW:=h_ hw;have e7:=h_ hsz
 clear k1 k2 k3 hw hsz
 go_enter func11,ntmps11
 go_upto_region 2 with(first
  |((with_reducible refine dZ ?_);refine aE rfl 35 rfl _ _ (ji _) ?_)
  |fail)
 rw[HW.out]
 go_wp2_with (first
  |((with_reducible refine dZ ?_);refine vE rfl (.tmp 7) rfl w (w.heap.size+2) _ [] K3.out rfl ?_)
  |((with_reducible refine dZ ?_);refine vZ rfl (.tmp 6) (.tmp 76) rfl w (w.heap.size+1) K2.out _ [] rfl rfl rfl ?_;intro w6 i6 t6;have L6:=h_ i6;clear i6 t6)
  |fail)
 exact tP results11 rfl L6.out ⟨_,rfl,dU.nil _ _,L6.out.bq⟩
theorem GX (s:Bytes) (hr:uU s=none) (bu:Url) (bv:Value) (w:World) (h8:bu.host.six.length=8) (hbv:Sl w.heap.size w bv (bu.path.map S)) (hbs:Bs bu.path) (hs:s.length<=1000000) (hE:Env w) :
  Calls prog 11 #[.int .i64 3,.agg (ah bv bu),.string (bs s)] w (eE w (rG 3 bu s)):=by
 have yL:=h_ (fun r W (hr:uU s=some r) (hb:Below w.heap.size w W)=>mt bu bv r.url W h8 ((hbv.below hb).more hb.size) hbs (aq (Dt hr) (by omega)) (hE.below hb))
 have yS:=h_ (fun W (hb:Below w.heap.size w W)=>oA s W hs (hE.below hb))
 have qS:=h_ (fun W (hb:Below w.heap.size w W)=>fX bu.path bv W ((hbv.below hb).more hb.size) (by have:=hbs.1;omega))
 have H8:=h_ h8
 have TL:=h_ (show bv.oneCell'=true by
  obtain⟨c,_,_,h⟩:=hbv
  rcases h with⟨_,a,rfl⟩|⟨b,o,_,rfl,_⟩ <;>rfl)
 obtain⟨z,hz⟩:=ap (bs s)
 rw[<-hz]at yS ⊢
 obtain⟨R,hR⟩:=ap (rG 3 bu s)
 rw[<-hR]
 have hR2:R=match uU s with
  |none=>⟨[],[]⟩
  |some r=>⟨[if r.has=true then dG bu r.url []else⟨true,bu,[]⟩],r.delay⟩:=hR
 clear hz hs hE h8 hbv hbs hR
 obtain⟨W,hw,hsz,k1,k2,k3⟩:=ng w bv bu
 have K1:=h_ k1;have K2:=h_ k2;have K3:=h_ k3;have HW:=h_ hw;have e7:=h_ hsz
 clear k1 k2 k3 hw hsz
 have HB2:=h_ (show w.heap.size+2<W.heap.size by have:=e7.out;omega)
 rw[hr]at hR2
 have gW:=h_ (show R=⟨[],[]⟩from hR2)
 have HP:=h_ (fun W hb=>(show Calls prog 31 #[.string z] W fun e w'=>e=.returned (.tuple #[.agg (bT R0),.bool false])∧Below W.heap.size W w' from by have h:=yS.out W hb;rw[hr]at h;exact h))
 clear hr hR2 yL qS yS
 go_enter func11,ntmps11
 go_upto_region 2 with(first
  |((with_reducible refine dZ ?_);refine aE rfl 35 rfl _ _ (ji _) ?_)
  |fail)
 rw[HW.out]
 go_wp2_with (first
  |(go_at_call 31;refine(HP.out _ K2.out.bq).mono ?_;rintro e w3 ⟨rfl,hb⟩;have J2:=h_ (K2.out.below hb);have J3:=h_ (K3.out.below hb);clear hb)
  |((with_reducible refine dZ ?_);refine aE rfl 63 rfl _ _ (JU _) ?_)
  |((with_reducible refine dZ ?_);refine newR rfl (.tmp 11) (.tmp 51) rfl R0 rfl rfl rfl ?_;intro w4 i4;have L2:=h_ (J2.out.below i4.bq);have L3:=h_ (J3.out.below i4.bq);clear i4)
  |((with_reducible refine dZ ?_);refine vE rfl (.tmp 7) rfl w (w.heap.size+2) _ [] L3.out rfl ?_)
  |((with_reducible refine dZ ?_);refine vZ rfl (.tmp 6) (.tmp 55) rfl w (w.heap.size+1) L2.out _ [] rfl rfl rfl ?_;intro w6 i6 t6;have L6:=h_ i6;clear i6 t6)
  |fail)
 exact tP results11 rfl L6.out ⟨_,by rw[gW.out],by rw[gW.out];exact dU.nil _ _,L6.out.bq⟩

theorem GY (s dl ur:Bytes) (hr:uU s=some ⟨dl,true,ur⟩) (bu:Url) (bv:Value) (w:World) (h8:bu.host.six.length=8) (hbv:Sl w.heap.size w bv (bu.path.map S)) (hbs:Bs bu.path) (hs:s.length<=1000000) (hE:Env w) :
  Calls prog 11 #[.int .i64 3,.agg (ah bv bu),.string (bs s)] w (eE w (rG 3 bu s)):=by
 have yL:=h_ (fun r W (hr:uU s=some r) (hb:Below w.heap.size w W)=>mt bu bv r.url W h8 ((hbv.below hb).more hb.size) hbs (aq (Dt hr) (by omega)) (hE.below hb))
 have yS:=h_ (fun W (hb:Below w.heap.size w W)=>oA s W hs (hE.below hb))
 have qS:=h_ (fun W (hb:Below w.heap.size w W)=>fX bu.path bv W ((hbv.below hb).more hb.size) (by have:=hbs.1;omega))
 have H8:=h_ h8
 have TL:=h_ (show bv.oneCell'=true by
  obtain⟨c,_,_,h⟩:=hbv
  rcases h with⟨_,a,rfl⟩|⟨b,o,_,rfl,_⟩ <;>rfl)
 obtain⟨z,hz⟩:=ap (bs s)
 rw[<-hz]at yS ⊢
 obtain⟨R,hR⟩:=ap (rG 3 bu s)
 rw[<-hR]
 have hR2:R=match uU s with
  |none=>⟨[],[]⟩
  |some r=>⟨[if r.has=true then dG bu r.url []else⟨true,bu,[]⟩],r.delay⟩:=hR
 clear hz hs hE h8 hbv hbs hR
 obtain⟨W,hw,hsz,k1,k2,k3⟩:=ng w bv bu
 have K1:=h_ k1;have K2:=h_ k2;have K3:=h_ k3;have HW:=h_ hw;have e7:=h_ hsz
 clear k1 k2 k3 hw hsz
 have HB2:=h_ (show w.heap.size+2<W.heap.size by have:=e7.out;omega)
 rw[hr]at hR2
 have HP:=h_ (fun W hb=>(show Calls prog 31 #[.string z] W fun e w'=>e=.returned (.tuple #[.agg (bT ⟨dl,true,ur⟩),.bool true])∧Below W.heap.size W w' from by have h:=yS.out W hb;rw[hr]at h;exact h))
 have HI:=h_ (fun W hb=>yL.out _ W hr hb)
 obtain⟨it,hit⟩:=ap (dG bu ur [])
 have gW:=h_ (show R=⟨[it],dl⟩from by rw[hit];exact hR2)
 have HWD:=h_ (show it.words=[] by rw[hit];unfold dG;split <;>rfl)
 have HIT:=h_ (fun W hb=>(show Calls prog 29 #[.agg (ah bv bu),S ur] W (XU W it)from by rw[hit];exact HI.out W hb))
 clear hr hR2 yL qS yS hit HI
 go_enter func11,ntmps11
 go_upto_region 2 with(first
  |((with_reducible refine dZ ?_);refine aE rfl 35 rfl _ _ (ji _) ?_)
  |fail)
 rw[HW.out]
 go_upto_region 19 with(first
  |(go_at_call 31;refine(HP.out _ K2.out.bq).mono ?_;rintro e w3 ⟨rfl,hb⟩;have HB3:=h_ hb;clear hb)
  |((with_reducible refine dZ ?_);refine aE rfl 63 rfl _ _ (JU _) ?_)
  |((with_reducible refine dZ ?_);refine newR rfl (.tmp 11) (.tmp 51) rfl ⟨dl,true,ur⟩ rfl rfl rfl ?_;intro w4 i4;have I4:=h_ i4;have L2:=h_ ((K2.out.below HB3.out).below i4.bq);have L3:=h_ ((K3.out.below HB3.out).below i4.bq);have M1:=h_ ((K1.out.keep HB3.out).keep i4.bq);clear i4)
  |((with_reducible refine dZ ?_);refine EI rfl (.tmp 56) rfl w3.heap.size 63 (bT ⟨dl,true,ur⟩) I4.out.cb 0 (S dl) rfl rfl ?_)
  |((with_reducible refine dZ ?_);refine Nh rfl (.tmp 58) (.tmp 57) rfl w (w.heap.size+2) L3.out dl rfl rfl ?_;intro w5 i5 t5;have N3:=h_ i5;have N2:=h_ (L2.out.tn t5 (by omega) i5);have N1:=h_ (t5.cb M1.out (by omega));have N4:=h_ (t5.cb I4.out.cb (by have:=HB2.out;have:=HB3.out.size;omega));clear i5 t5)
  |((with_reducible refine dZ ?_);refine SS rfl (.tmp 59) rfl w3.heap.size 63 (bT ⟨dl,true,ur⟩) N4.out 1 (.bool true) rfl rfl ?_)
  |fail)
 go_upto_region 23 with(first
  |((with_reducible refine dZ ?_);refine dB (by rfl) (.tmp 4) rfl _ bv bu H8.out rfl N1.out ?_)
  |((with_reducible refine dZ ?_);refine EI rfl (.tmp 62) rfl w3.heap.size 63 (bT ⟨dl,true,ur⟩) N4.out 2 (S ur) rfl rfl ?_)
  |(go_at_call 29;refine(HIT.out _ N2.out.bq).mono ?_;rintro e w6 ⟨pv,rfl,i8,oo,hb⟩;have I8:=h_ i8;have OO:=h_ oo;have jB:=h_ hb;clear hb oo i8)
  |((with_reducible refine dZ ?_);refine rQ rfl (.tmp 64) rfl pv aD it I8.out rfl ?_;have hb4:=(Below.refl w6.heap.size w6).alloc (ae _) (.cells (bN pv aD it) 41);have Mf:=dU.one (base:=w5.heap.size) w6 (pv:=pv) (wv:=aD) (i:=it) ⟨I8.out,OO.out,by rw[HWD.out];exact World.ownsRow_nil _ _ _ _⟩ jB.out.size;obtain⟨g,hg⟩:∃ g,g=w6.heap.size:=⟨_,rfl⟩;obtain⟨w7,hw7⟩:∃ w7,w7=w6.alloc (.cells (bN pv aD it) 41):=⟨_,rfl⟩;rw[<-hw7,<-hg]at Mf;rw[<-hw7]at hb4;rw[<-hw7,<-hg];have J3:=h_ ((N3.out.below jB.out).below hb4);have J2:=h_ ((N2.out.below jB.out).below hb4);have FS:=h_ Mf;clear hw7 hg hb4 Mf)
  |((with_reducible refine dZ ?_);refine yd rfl (.tmp 66) (.tmp 65) rfl w (w.heap.size+2) J3.out _ rfl rfl rfl ?_;intro w8 i8 t8;have L8:=h_ i8;have IK:=h_ (FS.out.tn t8 N3.out.lt);have L7:=h_ (J2.out.tn t8 (by omega) i8);clear i8 t8)
  |fail)
 clear HIT
 go_wp2_with (first
  |((with_reducible refine dZ ?_);refine vE rfl (.tmp 7) rfl w (w.heap.size+2) _ dl L8.out rfl ?_)
  |((with_reducible refine dZ ?_);refine vZ rfl (.tmp 6) (.tmp 76) rfl w (w.heap.size+1) L7.out _ dl rfl rfl rfl ?_;intro w9 i9 t9;have L9:=h_ i9;have FU:=h_ (IK.out.tn t9 N2.out.lt);clear i9 t9)
  |fail)
 exact tP results11 rfl L9.out ⟨_,by rw[gW.out],by rw[gW.out];exact FU.out.base N3.out.bq.size,L9.out.bq⟩

theorem Wx (pv v:Value) (u:Url) (h8:u.host.six.length=8):(ah pv u).setIfInBounds 18 v=ah v u:=(eW pv u h8).path v u.path
theorem CO (s dl ur:Bytes) (hr:uU s=some ⟨dl,false,ur⟩) (bu:Url) (bv:Value) (w:World) (h8:bu.host.six.length=8) (hbv:Sl w.heap.size w bv (bu.path.map S)) (hbs:Bs bu.path) (hs:s.length<=1000000) (hE:Env w) :
  Calls prog 11 #[.int .i64 3,.agg (ah bv bu),.string (bs s)] w (eE w (rG 3 bu s)):=by
 have yL:=h_ (fun r W (hr:uU s=some r) (hb:Below w.heap.size w W)=>mt bu bv r.url W h8 ((hbv.below hb).more hb.size) hbs (aq (Dt hr) (by omega)) (hE.below hb))
 have yS:=h_ (fun W (hb:Below w.heap.size w W)=>oA s W hs (hE.below hb))
 have qS:=h_ (fun W (hb:Below w.heap.size w W)=>fX bu.path bv W ((hbv.below hb).more hb.size) (by have:=hbs.1;omega))
 have H8:=h_ h8
 have TL:=h_ (show bv.oneCell'=true by
  obtain⟨c,_,_,h⟩:=hbv
  rcases h with⟨_,a,rfl⟩|⟨b,o,_,rfl,_⟩ <;>rfl)
 obtain⟨z,hz⟩:=ap (bs s)
 rw[<-hz]at yS ⊢
 obtain⟨R,hR⟩:=ap (rG 3 bu s)
 rw[<-hR]
 have hR2:R=match uU s with
  |none=>⟨[],[]⟩
  |some r=>⟨[if r.has=true then dG bu r.url []else⟨true,bu,[]⟩],r.delay⟩:=hR
 clear hz hs hE h8 hbv hbs hR
 obtain⟨W,hw,hsz,k1,k2,k3⟩:=ng w bv bu
 have K1:=h_ k1;have K2:=h_ k2;have K3:=h_ k3;have HW:=h_ hw;have e7:=h_ hsz
 clear k1 k2 k3 hw hsz
 have HB2:=h_ (show w.heap.size+2<W.heap.size by have:=e7.out;omega)
 rw[hr]at hR2
 have HP:=h_ (fun W hb=>(show Calls prog 31 #[.string z] W fun e w'=>e=.returned (.tuple #[.agg (bT ⟨dl,false,ur⟩),.bool true])∧Below W.heap.size W w' from by have h:=yS.out W hb;rw[hr]at h;exact h))
 have HI:=h_ (fun W hb=>yL.out _ W hr hb)
 have gW:=h_ (show R=⟨[⟨true,bu,[]⟩],dl⟩from hR2)
 have UA:=h_ (qP bv bu H8.out)
 have yC:=h_ (fun v=>Wx bv v bu H8.out)
 have xj:=h_ (show 18<(ah bv bu).size from eX H8.out (by decide))
 clear hr hR2 yL yS HI
 go_enter func11,ntmps11
 go_upto_region 2 with(first
  |((with_reducible refine dZ ?_);refine aE rfl 35 rfl _ _ (ji _) ?_)
  |fail)
 rw[HW.out]
 go_upto_region 20 with(first
  |(go_at_call 31;refine(HP.out _ K2.out.bq).mono ?_;rintro e w3 ⟨rfl,hb⟩;have HB3:=h_ hb;clear hb)
  |((with_reducible refine dZ ?_);refine aE rfl 63 rfl _ _ (JU _) ?_)
  |((with_reducible refine dZ ?_);refine newR rfl (.tmp 11) (.tmp 51) rfl ⟨dl,false,ur⟩ rfl rfl rfl ?_;intro w4 i4;have I4:=h_ i4;have L2:=h_ ((K2.out.below HB3.out).below i4.bq);have L3:=h_ ((K3.out.below HB3.out).below i4.bq);have M1:=h_ ((K1.out.keep HB3.out).keep i4.bq);clear i4)
  |((with_reducible refine dZ ?_);refine EI rfl (.tmp 56) rfl w3.heap.size 63 (bT ⟨dl,false,ur⟩) I4.out.cb 0 (S dl) rfl rfl ?_)
  |((with_reducible refine dZ ?_);refine Nh rfl (.tmp 58) (.tmp 57) rfl w (w.heap.size+2) L3.out dl rfl rfl ?_;intro w5 i5 t5;have N3:=h_ i5;have N2:=h_ (L2.out.tn t5 (by omega) i5);have N1:=h_ (t5.cb M1.out (by omega));have N4:=h_ (t5.cb I4.out.cb (by have:=HB2.out;have:=HB3.out.size;omega));clear i5 t5)
  |((with_reducible refine dZ ?_);refine SS rfl (.tmp 59) rfl w3.heap.size 63 (bT ⟨dl,false,ur⟩) N4.out 1 (.bool false) rfl rfl ?_)
  |fail)
 clear HP HW
 go_upto_region 21 with(first
  |((with_reducible refine dZ ?_);refine dB (by rfl) (.tmp 4) rfl _ bv bu H8.out rfl N1.out ?_;refine aE rfl 30 rfl _ _ (cD _) ?_;refine cN rfl (.tmp 13) (.tmp 67) rfl bv bu H8.out TL.out rfl rfl rfl ?_;intro w6 c6 b6;have I6:=h_ (OB.of c6 (ae _) b6);have O1:=h_ (N1.out.keep b6);have O2:=h_ (N2.out.below b6);have O3:=h_ (N3.out.below b6);clear c6 b6)
  |fail)
 have j5:=h_ (show w5.heap.size<w6.heap.size∧w.heap.size+2<w5.heap.size from⟨I6.out.lt,N3.out.lt⟩)
 have HW5:=h_ N3.out.bq
 obtain⟨g5,hg5⟩:=ap (w5.heap.size)
 rw[<-hg5]at I6 j5 ⊢
 have HG5:=h_ hg5
 clear hg5 N1 N2 N3 N4 I4 L2 L3 M1 HB3
 go_upto_region 22 with(first
  |((with_reducible refine dZ ?_);refine ST rfl (.tmp 68) rfl w.heap.size 30 (ah bv bu) O1.out 18 bv UA.out.path rfl ?_)
  |(go_at_call 30;refine(qS.out _ O2.out.bq).mono ?_;rintro e w7 ⟨v7,rfl,oo,hb⟩;have OO:=h_ (eu oo);have HS7:=h_ hb.size;have I7:=h_ (I6.out.below hb);have P2:=h_ (O2.out.below hb);have P3:=h_ (O3.out.below hb);clear oo hb)
  |((with_reducible refine dZ ?_);refine dJ rfl 28 (.tmp 71) (.tmp 70) rfl w5 g5 30 (ah bv bu) I7.out 18 v7 rfl rfl xj.out dy (aS OO.out) (ah v7 bu) (yC.out v7) ?_;intro w8 i8 t8;have I8:=h_ i8;have OO8:=h_ (t8.row OO.out j5.out.1);have yB:=h_ (aq HS7.out t8.s);have Q3:=h_ (OB.of (t8.cb P3.out.cb (by have:=j5.out.2;omega)) P3.out.le (fJ HW5.out i8.bq));have Q2:=h_ (OB.of (t8.cb P2.out.cb (by have:=j5.out.2;omega)) P2.out.le (fJ HW5.out i8.bq));clear i8 t8)
  |fail)
 clear I6 I7 P2 P3 O1 O2 O3 OO qS
 go_upto_region 23 with(first
  |((with_reducible refine dZ ?_);refine dB (by rfl) (.tmp 13) rfl _ v7 bu H8.out rfl I8.out.cb ?_;refine bG rfl 41 #[(0,.const (.bool true)),(1,.tmp 72)] rfl (.agg (bN v7 aD ⟨true,bu,[]⟩)) #[(0,.bool true),(1,.agg (ah v7 bu))] (by simp only[dj,cO,eC];rfl) (Sx v7 bu H8.out) ?_;refine rQ rfl (.tmp 73) rfl v7 aD ⟨true,bu,[]⟩ H8.out rfl ?_;have hb4:=(Below.refl w8.heap.size w8).alloc (ae _) (.cells (bN v7 aD ⟨true,bu,[]⟩) 41);have Mf:=dU.one (base:=w6.heap.size) w8 (pv:=v7) (wv:=aD) (i:=⟨true,bu,[]⟩) ⟨H8.out,OO8.out,World.ownsRow_nil _ _ _ _⟩ yB.out;obtain⟨g,hg⟩:∃ g,g=w8.heap.size:=⟨_,rfl⟩;obtain⟨w9,LR⟩:∃ w9,w9=w8.alloc (.cells (bN v7 aD ⟨true,bu,[]⟩) 41):=⟨_,rfl⟩;rw[<-LR,<-hg]at Mf;rw[<-LR]at hb4;rw[<-LR,<-hg];have J3:=h_ (Q3.out.below hb4);have J2:=h_ (Q2.out.below hb4);have FS:=h_ Mf;clear LR hg hb4 Mf)
  |((with_reducible refine dZ ?_);refine yd rfl (.tmp 75) (.tmp 74) rfl w (w.heap.size+2) J3.out _ rfl rfl rfl ?_;intro wa ia ta;have L8:=h_ ia;have IK:=h_ (FS.out.tn ta (by have:=j5.out;omega));have L7:=h_ (J2.out.tn ta (by omega) ia);clear ia ta)
  |fail)
 go_wp2_with (first
  |((with_reducible refine dZ ?_);refine vE rfl (.tmp 7) rfl w (w.heap.size+2) _ dl L8.out rfl ?_)
  |((with_reducible refine dZ ?_);refine vZ rfl (.tmp 6) (.tmp 76) rfl w (w.heap.size+1) L7.out _ dl rfl rfl rfl ?_;intro wb ib tb;have L9:=h_ ib;have FU:=h_ (IK.out.tn tb (by have:=j5.out;omega));clear ib tb)
  |fail)
 exact tP results11 rfl L9.out ⟨_,by rw[gW.out],by rw[gW.out];exact FU.out.base (by have:=j5.out;omega),L9.out.bq⟩

theorem jf.tn {b:Nat} {w w':World} {base:Nat} {v:Value} {l:List dm} (c:jf w base v l) (h:Tn b w w') (hb:b<base):jf w' base v l:=by
 obtain⟨ps,h1,h2,h3⟩:=c
 exact⟨ps,h1,h.tT h2 hb,fun p hp=>h.tT (h3 p hp) hb⟩
theorem za {B:Nat} {W:World} {a:Option Addr} {n c:Nat} {l:List dm} (h:Rj B W (.slice a n c) l) (k:Nat) (hk:k<l.length) :
  ∃b o wv,a=some ⟨b,o,none⟩∧b<B∧W.rangeAt b (o+k*8) (aY wv l[k]).toList∧Sl B W wv (l[k].words.map S):=by
 obtain⟨c',_,h⟩:=h
 rcases h with⟨rfl,_⟩|⟨b,o,hb,hv,ha⟩
 ·simp at hk
 injection hv with h1 h2 h3
 obtain⟨wv,h4,h5⟩:=ha k hk
 exact⟨b,o,wv,h1,hb,h4,h5⟩
theorem OB.base {w0 W W2:World} {b:Nat} {T:TypeId} {cs:Array Value} {B:Nat} (i:OB w0 b T cs W) (h:Below B W W2) (hb:b<B) (hB:w0.heap.size<=B):OB w0 b T cs W2:=⟨(h.block b hb).trans i.a,i.le,i.bq.trans (h.mono hB)⟩
theorem Tn.Ux {b B:Nat} {w W W2:World} (h:Tn b w W) (k:Below B W W2) (hB:w.heap.size<=B):Tn b w W2 :=
 ⟨aq h.s k.size,fun j hj hn=>(k.block j (by omega)).trans (h.k j hj hn)⟩
theorem Mm (pv wv v:Value) (i:gG) (h8:i.url.host.six.length=8) (ws:List Bytes):(bN pv wv i).setIfInBounds 24 v=bN pv v {i with words:=ws}:=by
 obtain⟨rt,⟨aC,usr,ed,⟨hk,hn,hf,six⟩,a1,a2,a3,a4,a5,a6,a7,a8,a9⟩,w0⟩:=i
 simp only at h8
 obtain⟨a,b,c,d,e,f,g,i,rfl⟩:=eight h8
 rfl
section
variable {ops:Array Oper} {rest:List Oper} {o:Oper} {a:Act} {w:World} {Q:Exit->Act->World->Prop}
theorem a3D (hgd:o.guard=none) (x:Operand) (ho:o.op=.load 45 x) (b k:Nat) (wv:Value) (c:dm) (hr:w.rangeAt b k (aY wv c).toList) (hx:a.eval x=.pointer (some ⟨b,k,none⟩)) (K:wpList prog ops Q rest (a.put o.dst (.agg (aY wv c))) w):wpList prog ops Q (o::rest) a w :=
 jA hgd (.agg (aY wv c)) (dM 45 x ho b k (aY wv c).toList _ underlying45 rfl mb hx hr) K
theorem newC {W:World} (hgd:o.guard=none) (x y:Operand) (ho:o.op=.store 45 x y) (wv:Value) (c:dm) (h1:wv.oneCell'=true) (hW:W=w.alloc (.cells (aY aD C0) 45)) (hx:a.eval x=.pointer (some ⟨w.heap.size,0,none⟩)) (hy:a.eval y=.agg (aY wv c))
  (k:∀ w',CB w' w.heap.size 45 (aY wv c)->Below w.heap.size w w'->wpList prog ops Q rest (a.put o.dst undef) w'):wpList prog ops Q (o::rest) a W :=
 kf hgd _ x y ho (aY wv c) (aY aD C0) mb rfl (all_oneCell_toArray (Ew h1)) hW hx hy k
theorem VY {W:World} (hgd:o.guard=none) (x y:Operand) (ho:o.op=.store 41 x y) (pv wv:Value) (it:gG) (h8:it.url.host.six.length=8) (hp:pv.oneCell'=true) (hw:wv.oneCell'=true) (hW:W=w.alloc (.cells (bN aD aD I0) 41)) (hx:a.eval x=.pointer (some ⟨w.heap.size,0,none⟩)) (hy:a.eval y=.agg (bN pv wv it))
  (k:∀ w',OB w w.heap.size 41 (bN pv wv it) w'->wpList prog ops Q rest (a.put o.dst undef) w'):wpList prog ops Q (o::rest) a W :=
 kf hgd _ x y ho (bN pv wv it) (bN aD aD I0) (by rw[oh h8];exact pm) (by rw[oh h8];rfl) (all_oneCell_toArray (L4 hp hw)) hW hx hy fun w' c b=>k w' (OB.of c (ae _) b)
theorem a3E (hgd:o.guard=none) (x:Operand) (ho:o.op=.load 41 x) (w0:World) (b:Nat) (pv wv:Value) (it:gG) (h8:it.url.host.six.length=8) (i:OB w0 b 41 (bN pv wv it) w) (hx:a.eval x=.pointer (some ⟨b,0,none⟩)) (K:wpList prog ops Q rest (a.put o.dst (.agg (bN pv wv it))) w):wpList prog ops Q (o::rest) a w :=
 zP hgd _ x ho w0 b 41 (bN pv wv it) i _ hx underlying41 rfl (by rw[oh h8];exact pm) K
end

theorem vL (bu:Url) (bv:Value) (s:Bytes) (w:World) (h8:bu.host.six.length=8) (hbv:Sl w.heap.size w bv (bu.path.map S)) (hbs:Bs bu.path) (hs:s.length<=1000000) (hE:Env w) :
  Calls prog 11 #[.int .i64 2,.agg (ah bv bu),.string (bs s)] w (eE w (rG 2 bu s)):=by
 have hlim:=yo s
 have yL:=h_ (fun(c:dm) W (hc:c∈nz s) (hb:Below w.heap.size w W)=>mt bu bv c.url W h8 ((hbv.below hb).more hb.size) hbs (aq (hlim.2 c hc).1 (by omega)) (hE.below hb))
 have gF:=h_ (fun W (hb:Below w.heap.size w W)=>pL s W (by omega) (hE.below hb))
 have OS:=h_ (fun(c:dm) (hc:c∈nz s)=>(show c.words.length<=1024000000 by have:=(hlim.2 c hc).2;omega))
 have H8:=h_ h8
 obtain⟨z,hz⟩:=ap (bs s)
 rw[<-hz]at gF ⊢
 obtain⟨f,hf⟩:∃ f:dm->gG,f=fun c=>dG bu c.url c.words:=⟨_,rfl⟩
 obtain⟨l,hl⟩:=ap (nz s)
 have hR:rG 2 bu s=⟨l.map f,[]⟩:=by rw[hf,hl];rfl
 rw[hR]
 have hln:l.length<=1000000:=by rw[hl];exact aq hlim.1 hs
 have HF:=h_ (fun c=>(show f c={dG bu c.url []with words:=c.words} by rw[hf];show dG bu c.url c.words=_;unfold dG;cases mC bu c.url <;>rfl))
 have HFW:=h_ (fun c:dm=>(show(dG bu c.url []).words=[] by unfold dG;split <;>rfl))
 rw[<-hl]at yL gF OS
 obtain⟨N,hN⟩:=ap (l.length)
 have HN:=h_ hN
 rw[<-hN]at hln
 clear hz hs hE h8 hbv hbs hR hf hl hlim hN
 obtain⟨W,hw,hsz,k1,k2,k3⟩:=ng w bv bu
 have K1:=h_ k1;have K2:=h_ k2;have K3:=h_ k3;have HW:=h_ hw;have e7:=h_ hsz
 clear k1 k2 k3 hw hsz
 go_enter func11,ntmps11
 go_upto_region 2 with(first
  |((with_reducible refine dZ ?_);refine aE rfl 35 rfl _ _ (ji _) ?_)
  |fail)
 rw[HW.out]
 go_upto_region 7 with(first
  |(go_at_call 13;refine(gF.out _ K2.out.bq).mono ?_;rintro e w3 ⟨v,rfl,cr,hb⟩;obtain⟨av,cp,rfl⟩:=cr.len;rw[<-HN.out]at cr ⊢;have CR:=h_ cr;have HB3:=h_ hb;clear cr hb)
  |fail)
 have HB2:=h_ (show w.heap.size+2<W.heap.size by have:=e7.out;omega)
 have C1:=h_ (K1.out.keep HB3.out)
 have C2:=h_ (K2.out.below HB3.out)
 have C3:=h_ (K3.out.below HB3.out)
 have Og:=h_ HB3.out.size
 have hs3:=HB3.out.size
 clear HB3 K1 K2 K3 HW gF
 go_loopw [9,10,27] (fun _ _ iv wr=>∃ (k:Nat) (v2:Value),k<=N∧iv=.int .i64 k∧Hid (OB w (w.heap.size+2) 35 (bj v2 []) wr)∧Hid (Tn (w.heap.size+2) w3 wr)∧Hid (dU wr w3.heap.size v2 ((l.take k).map f))) (fun _ _ i _=>N-(intOf i).toNat)
 case atStart=>exact⟨0,aD,aO _,rfl,C3,h_ (Tn.refl _ _),h_ (dU.nil _ _)⟩
 case round =>
  obtain⟨k,v2,hk,rfl,D3,TN,IR⟩:=hrel
  by_cases hkN:k<N
  ·have hkl:k<l.length:=by have:=HN.out;omega
   obtain⟨c,hc⟩:=ap (l[k])
   have HCM:=h_ (show c∈l by rw[hc];exact bJ hkl)
   have htk:l.take (k+1)=l.take k++[c]:=by rw[hc,List.take_add_one,az hkl];rfl
   have Jq:=h_ htk
   have hca:=(CR.out.tn TN.out HB2.out).SG (by rw[<-HN.out];exact aq hln (by decide))
   obtain⟨cb,co,wv,Vn,hcb,hra,hsw⟩:=za hca k hkl
   rw[<-hc]at hra hsw
   have a3U:=Vn
   subst Vn
   have cX:=h_ hra
   have HSW:=h_ hsw
   have HWO:=h_ (QY hsw)
   have D2:=h_ (OB.of (TN.out.cb C2.out.cb (by omega)) C2.out.le D3.out.bq)
   have D1:=h_ (TN.out.cb C1.out (by omega))
   have XN:=h_ TN.out.s
   have HIT:=h_ (fun W hb=>yL.out c W HCM.out hb)
   clear hc htk hca hra hsw a3U hkl
   go_upto_region 9 with(first
    |((with_reducible refine dZ ?_);refine a3D rfl (.tmp 29) rfl cb (co+k*8) wv c cX.out rfl ?_;refine aE rfl 45 rfl _ _ (FX _) ?_;refine newC rfl (.tmp 9) (.tmp 30) rfl wv c HWO.out rfl rfl rfl ?_;intro w4 c4 b4;have Q4:=h_ c4;have B4:=h_ b4;clear c4 b4)
    |fail)
   have E1:=h_ (D1.out.keep B4.out)
   have E2:=h_ (D2.out.below B4.out)
   have XP:=h_ ((HSW.out.below B4.out).more B4.out.size)
   have E3:=h_ (D3.out.below B4.out)
   have TN4:=h_ (TN.out.below B4.out)
   have FS:=h_ (IR.out.below B4.out)
   have SQ4:=h_ (show wr.heap.size<w4.heap.size from Q4.out.lt)
   obtain⟨q4,hq4⟩:=ap (wr.heap.size)
   have HQ4:=h_ (show w3.heap.size<=q4 by rw[hq4];exact TN.out.s)
   rw[<-hq4]at Q4 SQ4 ⊢
   clear cX HSW D1 D2 D3 TN IR B4 hq4 XN
   go_upto_region 10 with(first
    |((with_reducible refine dZ ?_);refine dB (by rfl) (.tmp 4) rfl _ bv bu H8.out rfl E1.out ?_)
    |((with_reducible refine dZ ?_);refine EI rfl (.tmp 32) rfl q4 45 (aY wv c) Q4.out 0 (S c.url) rfl rfl ?_)
    |(go_at_call 29;refine(HIT.out _ E2.out.bq).mono ?_;rintro e w5 ⟨pv,rfl,i8,oo,hb⟩;have I8:=h_ i8;have OO:=h_ oo;have B5:=h_ hb;clear hb oo i8)
    |((with_reducible refine dZ ?_);refine aE rfl 41 rfl _ _ (yY _) ?_;refine VY rfl (.tmp 10) (.tmp 34) rfl pv aD (dG bu c.url []) I8.out (aS OO.out) rfl rfl rfl rfl ?_;intro w6 i6;have I6:=h_ i6;clear i6)
    |fail)
   have B6:=h_ (I6.out.bq)
   have F1:=h_ (E1.out.keep B5.out)
   have F2:=h_ (E2.out.below B5.out)
   have F3:=h_ (E3.out.below B5.out)
   have Q6:=h_ ((Q4.out.keep B5.out).keep B6.out)
   have TN5:=h_ (TN4.out.below B5.out)
   have FT:=h_ (FS.out.below B5.out)
   have RL:=h_ ((((XP.out.below B5.out).more B5.out.size).below B6.out).more B6.out.size)
   obtain⟨q6,Xf⟩:=ap (w5.heap.size)
   have HQ6:=h_ (show q6<w6.heap.size∧w3.heap.size<=w4.heap.size∧w3.heap.size<=w6.heap.size by
    have h1:=I6.out.lt
    have h2:=B5.out.size
    have h3:=HQ4.out
    have h4:=SQ4.out
    rw[Xf]
    omega)
   rw[<-Xf]at I6 ⊢
   clear E1 E2 E3 Q4 TN4 FS XP Xf HIT B6 B5
   go_upto_region 11 with(first
    |((with_reducible refine dZ ?_);refine ST rfl (.tmp 35) rfl q4 45 (aY wv c) Q6.out 1 wv rfl rfl ?_)
    |(go_at_call 30;refine(fX c.words wv _ RL.out (OS.out c HCM.out)).mono ?_;rintro e w7 ⟨v7,rfl,oo,hb⟩;have R7:=h_ (eu oo);have I7:=h_ (I6.out.below hb);clear oo hb)
    |((with_reducible refine dZ ?_);refine dJ rfl 28 (.tmp 38) (.tmp 37) rfl w5 q6 41 (bN pv aD (dG bu c.url [])) I7.out 24 v7 rfl rfl (by rw[oh I8.out];decide) dy (aS R7.out) (bN pv v7 {dG bu c.url []with words:=c.words}) (Mm pv aD v7 (dG bu c.url []) I8.out c.words) ?_;intro w8 i8 t8;have J8:=h_ i8;have R8:=h_ (t8.row R7.out HQ6.out.1);clear i8 t8)
    |fail)
   have G1:=h_ (F1.out.keep J8.out.bq)
   have G2:=h_ (F2.out.below J8.out.bq)
   have G3:=h_ (F3.out.below J8.out.bq)
   have TN8:=h_ (TN5.out.below J8.out.bq)
   have IK:=h_ (FT.out.below J8.out.bq)
   have OO8:=h_ (own_below' OO.out J8.out.bq)
   obtain⟨it,hit⟩:=ap (f c)
   have HIT:=h_ hit
   rw[HF.out]at hit
   have H6:=h_ (show it.url.host.six.length=8 by rw[hit];exact I8.out)
   have IP:=h_ (show lY w8 w3.heap.size ((pv,v7),it)from⟨H6.out,by rw[hit];exact fA OO8.out HQ6.out.2.1,by rw[hit];exact fA R8.out HQ6.out.2.2⟩)
   rw[<-hit]at J8
   have DX:=h_ (show((l.take k).map f).length+1<=1000000000 by rw[aj,aA];omega)
   have S38:=h_ TN8.out.s
   clear F1 F2 F3 Q6 TN5 FT RL OO OO8 R7 R8 I6 I7 hit
   go_upto_region 12 with(first
    |((with_reducible refine dZ ?_);refine YV rfl (.tmp 39) rfl (w.heap.size+2) 35 (bj v2 []) G3.out.cb 0 v2 rfl rfl ?_)
    |((with_reducible refine dZ ?_);refine a3E rfl (.tmp 10) rfl w5 q6 pv v7 it H6.out J8.out rfl ?_;refine rQ rfl (.tmp 41) rfl pv v7 it H6.out rfl ?_;refine a0m rfl (.tmp 40) (.tmp 42) rfl w3.heap.size rfl IK.out IP.out rfl DX.out S38.out ?_;intro v9 w9 ir9 b9;have FU:=h_ ir9;have B9:=h_ b9;have H3:=h_ (G3.out.base b9 (aP HB2.out Og.out) (by have:=HB2.out;have:=Og.out;omega));clear ir9 b9)
    |((with_reducible refine dZ ?_);refine yd rfl (.tmp 44) (.tmp 43) rfl w (w.heap.size+2) H3.out v9 (dU.one' FU.out) rfl rfl ?_;intro wV pl t10;have L10:=h_ pl;have Uo:=h_ t10;clear pl t10)
    |fail)
   have a3b:=h_ ((TN8.out.Ux B9.out (ae _)).trans Uo.out)
   have a2W:=h_ (FU.out.tn Uo.out (aP HB2.out Og.out))
   have HMP:=h_ (show(l.take k).map f++[it]=(l.take (k+1)).map f by rw[Jq.out,mN,HIT.out];rfl)
   clear G1 G2 G3 TN8 IK J8 IP B9 FU H3 Uo
   go_wp2_with fail
   go_roundw
   case rel=>exact⟨k+1,v9,by omega,by go_num,L10,a3b,by rw[<-HMP.out];exact a2W⟩
   case measure=>simp[intOf];omega
  obtain rfl:k=N:=by omega
  have D2:=h_ (OB.of (TN.out.cb C2.out.cb (by omega)) C2.out.le D3.out.bq)
  have yT:=h_ (show l.take k=l by rw[HN.out];exact dY)
  go_wp2_with (first
   |((with_reducible refine dZ ?_);refine vE rfl (.tmp 7) rfl w (w.heap.size+2) _ [] D3.out rfl ?_)
   |((with_reducible refine dZ ?_);refine vZ rfl (.tmp 6) (.tmp 76) rfl w (w.heap.size+1) D2.out _ [] (dU.one' IR.out) rfl rfl ?_;intro w6 i6 t6;have L6:=h_ i6;have OY:=h_ (IR.out.tn t6 (by have:=HB2.out;omega));clear i6 t6)
   |fail)
  exact tP results11 rfl L6.out ⟨_,rfl,by rw[<-yT.out];exact OY.out.base (by have:=HB2.out;omega),L6.out.bq⟩

theorem Dx (u:Url) (pu pv:Value) (w:World) (h8:u.host.six.length=8) (h:Sl w.heap.size w pu (u.path.map S)) (k:Sl w.heap.size w pv (u.path.map S)) :
  Calls prog 47 #[.agg (ah pu u),.agg (ah pv u)] w fun e w'=>e=.returned (.bool true)∧Below w.heap.size w w':=by
 obtain⟨W,hW,hb,k1,k2⟩:=Tr w pu pv u u
 have HW:=h_ hW
 have BW:=h_ hb
 have HSU:=h_ (show Sl W.heap.size W pu (u.path.map S)from(h.below hb).more hb.size)
 have WR:=h_ (show Sl W.heap.size W pv (u.path.map S)from(k.below hb).more hb.size)
 have H8:=h_ h8
 have UA:=h_ (qP pu u h8)
 have UB:=h_ (qP pv u h8)
 obtain⟨FD,od⟩:=ap (bs u.aC)
 obtain⟨FE,oe⟩:=ap (bs u.usr)
 obtain⟨FC,n9⟩:=ap (bs u.ed)
 obtain⟨kI,fS⟩:=ap (u.aZ)
 obtain⟨uB,k8⟩:=ap (u.port)
 obtain⟨AQ,n8⟩:=ap (u.opq)
 obtain⟨yx,k5⟩:=ap (bs u.flat)
 obtain⟨uz,k7⟩:=ap (u.bP)
 obtain⟨x_q,CD⟩:=ap (bs u.q)
 obtain⟨uy,k6⟩:=ap (u.bS)
 obtain⟨x_f,CA⟩:=ap (bs u.f)
 have iU:=h_ (fun(V:World) (hb2:Below W.heap.size W V)=>(show V.cell? ⟨w.heap.size,0,none⟩=some (.string FD)∧V.cell? ⟨w.heap.size+1,0,none⟩=some (.string FD)∧V.cell? ⟨w.heap.size,1,none⟩=some (.string FE)∧V.cell? ⟨w.heap.size+1,1,none⟩=some (.string FE)∧V.cell? ⟨w.heap.size,2,none⟩=some (.string FC)∧V.cell? ⟨w.heap.size+1,2,none⟩=some (.string FC)∧V.cell? ⟨w.heap.size,14,none⟩=some (.bool kI)∧V.cell? ⟨w.heap.size+1,14,none⟩=some (.bool kI)∧V.cell? ⟨w.heap.size,15,none⟩=some (.int .i64 uB)∧V.cell? ⟨w.heap.size+1,15,none⟩=some (.int .i64 uB)∧V.cell? ⟨w.heap.size,16,none⟩=some (.bool AQ)∧V.cell? ⟨w.heap.size+1,16,none⟩=some (.bool AQ)∧V.cell? ⟨w.heap.size,17,none⟩=some (.string yx)∧V.cell? ⟨w.heap.size+1,17,none⟩=some (.string yx)∧V.cell? ⟨w.heap.size,19,none⟩=some (.bool uz)∧V.cell? ⟨w.heap.size+1,19,none⟩=some (.bool uz)∧V.cell? ⟨w.heap.size,20,none⟩=some (.string x_q)∧V.cell? ⟨w.heap.size+1,20,none⟩=some (.string x_q)∧V.cell? ⟨w.heap.size,21,none⟩=some (.bool uy)∧V.cell? ⟨w.heap.size+1,21,none⟩=some (.bool uy)∧V.cell? ⟨w.heap.size,22,none⟩=some (.string x_f)∧V.cell? ⟨w.heap.size+1,22,none⟩=some (.string x_f)from
  ⟨by rw[od];exact(k1.keep hb2).ak UA.out.aC,by rw[od];exact(k2.keep hb2).ak UB.out.aC,by rw[oe];exact(k1.keep hb2).ak UA.out.usr,by rw[oe];exact(k2.keep hb2).ak UB.out.usr,by rw[n9];exact(k1.keep hb2).ak UA.out.ed,by rw[n9];exact(k2.keep hb2).ak UB.out.ed,by rw[fS];exact(k1.keep hb2).ak UA.out.aZ,by rw[fS];exact(k2.keep hb2).ak UB.out.aZ,by rw[k8];exact(k1.keep hb2).ak UA.out.port,by rw[k8];exact(k2.keep hb2).ak UB.out.port,by rw[n8];exact(k1.keep hb2).ak UA.out.opq,by rw[n8];exact(k2.keep hb2).ak UB.out.opq,by rw[k5];exact(k1.keep hb2).ak UA.out.flat,by rw[k5];exact(k2.keep hb2).ak UB.out.flat,by rw[k7];exact(k1.keep hb2).ak UA.out.bP,by rw[k7];exact(k2.keep hb2).ak UB.out.bP,by rw[CD];exact(k1.keep hb2).ak UA.out.q,by rw[CD];exact(k2.keep hb2).ak UB.out.q,by rw[k6];exact(k1.keep hb2).ak UA.out.bS,by rw[k6];exact(k2.keep hb2).ak UB.out.bS,by rw[CA];exact(k1.keep hb2).ak UA.out.f,by rw[CA];exact(k2.keep hb2).ak UB.out.f⟩))
 have cX:=h_ (fun(V:World) (hb2:Below W.heap.size W V)=>(show V.rangeAt w.heap.size 3 (aW u.host)∧V.rangeAt (w.heap.size+1) 3 (aW u.host)from
  ⟨fun j x hj=>(k1.keep hb2).ak (UA.out.host j x hj),fun j x hj=>(k2.keep hb2).ak (UB.out.host j x hj)⟩))
 have c1:=k1.ak UA.out.path
 have c2:=k2.ak UB.out.path
 clear hW k1 k2 hb h k h8 od oe n9 fS k8 n8 k5 k7 CD k6 CA
 go_enter func47,ntmps47
 go_upto_region 1 with fail
 rw[HW.out]
 refine wp_region_lit ?_
 simp only[WX,bI,bW]
 go_wp2_with (first
  |(go_at_call 15;refine(ln u.path u.path pu pv _ _ _ HSU.out WR.out).mono ?_;rintro e w2 ⟨rfl,hb⟩;rw[show decide (u.path=u.path)=true from decide_eq_true rfl];have B2:=h_ hb;clear c1 c2;obtain⟨f0,f1,f2,f3,f4,f5,f6,f7,f8,f9,f10,f11,f12,f13,f14,f15,f16,f17,f18,f19,f20,f21⟩:=iU.out w2 hb;clear hb)
  |((with_reducible refine dZ ?_);refine xV (by rfl) (.tmp 32) rfl w.heap.size 3 u.host H8.out rfl (cX.out w2 B2.out).1 ?_)
  |((with_reducible refine dZ ?_);refine xV (by rfl) (.tmp 34) rfl (w.heap.size+1) 3 u.host H8.out rfl (cX.out w2 B2.out).2 ?_)
  |((with_reducible refine dZ ?_);refine YH (by rfl) (.tmp 33) (.tmp 35) rfl u.host u.host H8.out H8.out true ⟨fun _=>rfl,fun _=>rfl⟩ rfl rfl ?_)
  |fail)
 go_ret
 exact⟨rfl,BW.out.trans (B2.out.mono BW.out.size)⟩
end Go.Proofs.YtmndlfglgcioeaaGreatDoor
