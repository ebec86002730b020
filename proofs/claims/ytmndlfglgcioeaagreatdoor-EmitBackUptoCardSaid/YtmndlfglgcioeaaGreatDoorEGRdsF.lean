/- Joined texts. -/
import Derived.Test.YtmndlfglgcioeaaGreatDoorEGRdsB
import Derived.Test.YtmndlfglgcioeaaGreatDoorEGRfrD
import Derived.Test.YtmndlfglgcioeaaGreatDoorEGRsm
set_option maxHeartbeats 40000000
namespace Go.Proofs.YtmndlfglgcioeaaGreatDoor
open Tryz
open Go.RowKit
set_option maxRecDepth 10000
theorem ig{P:Program}{ops:Array Oper}{Q:Exit->Act->World->Prop}{l:List Oper}{a:Act}{w:World}(h:wpList P ops Q l a w):wpList P ops Q l a w:=h
abbrev bI(v:Value)(d:Bytes):Array Value:=#[v,S d]
theorem pO:(prog.info? 35).map (·.size)=some 2:=by kernel_rfl
theorem Wn:(prog.info? 33).map (·.size)=some 1:=by kernel_rfl
theorem tK(w:World):(Instr.alloc 35 true (Value.tuple #[])).run prog w=.ok (.pointer (some ⟨w.heap.size,0,none⟩)) (w.alloc (.cells (bI aR []) 35)):=by kernel_rfl
theorem Tn.BB{b:Nat}{w w':World}(h:Tn b w w'){base e s n:Nat}{v:Value}{xs:List Value}(i:w.ownsRow base e s v n xs)(hb:b<base):w'.ownsRow base e s v n xs:=by
 refine⟨i.1,?_⟩;rcases i.2 with h0|⟨g,cap,cur,e1,hg,hh,hr⟩
 ·exact .inl h0
 exact .inr ⟨g,cap,cur,e1,hg,(h.k g (bQ.1 hh).1 (by omega)).trans hh,hr⟩
theorem fS.tn{b:Nat}{w w':World}{base:Nat}{v:Value}{l:List eG}(c:fS w base v l)(h:Tn b w w')(hb:b<base):fS w' base v l:=by
 obtain⟨ps,h1,h2,h3⟩:=c;exact⟨ps,h1,h.BB h2 hb,fun p hp=>⟨(h3 p hp).six,h.BB (h3 p hp).path hb,h.BB (h3 p hp).words hb⟩⟩
theorem fS.one'{W:World}{base:Nat}{v:Value}{l:List eG}(c:fS W base v l):v.oneCell'=true:=by
 obtain⟨a,cp,rfl⟩:=c.len;rfl
section
variable {ops:Array Oper} {rest:List Oper} {o:Oper} {a:Act} {w:World} {Q:Exit->Act->World->Prop}
theorem wE(hgd:o.guard=none)(x:Operand)(ho:o.op=.load 35 x)(w0:World)(b:Nat)(v:Value)(d:Bytes)(i:OB w0 b 35 (bI v d) w)(hx:a.eval x=.pointer (some ⟨b,0,none⟩))
  (K:wpList prog ops Q rest (a.put o.dst (.agg (bI v d))) w):wpList prog ops Q (o::rest) a w :=
 DH hgd _ x ho w0 b 35 (bI v d) i _ hx underlying35 rfl pO K
theorem zE(hgd:o.guard=none)(x y:Operand)(ho:o.op=.store 35 x y)(w0:World)(b:Nat){v0:Value}{d0:Bytes}(i:OB w0 b 35 (bI v0 d0) w)(v:Value)(d:Bytes)(h1:v.oneCell'=true)(hx:a.eval x=.pointer (some ⟨b,0,none⟩))(hy:a.eval y=.agg (bI v d))
  (K:∀ w',OB w0 b 35 (bI v d) w'->Tn b w w'->wpList prog ops Q rest (a.put o.dst undef) w'):wpList prog ops Q (o::rest) a w :=
 t4 hgd _ x y ho w0 b 35 (bI v0 d0) i 0 [v,S d] hx hy (bR rfl) pO (by intro u hu;simp only[aj,bl,or_false]at hu;rcases hu with rfl|rfl;exact h1;rfl) (bI v d) rfl K
theorem xn(hgd:o.guard=none)(x y:Operand)(ho:o.op=.store 33 x y)(w0:World)(b:Nat){v0:Value}{d:Bytes}(i:OB w0 b 35 (bI v0 d) w)(v:Value)(h1:v.oneCell'=true)(hx:a.eval x=.pointer (some ⟨b,0,none⟩))(hy:a.eval y=v)
  (K:∀ w',OB w0 b 35 (bI v d) w'->Tn b w w'->wpList prog ops Q rest (a.put o.dst undef) w'):wpList prog ops Q (o::rest) a w :=
 ex hgd 33 x y ho w0 b 35 (bI v0 d) i 0 v hx hy (by show 0<2;decide) Wn h1 (bI v d) rfl K
end
section
variable {ops:Array Oper} {rest:List Oper} {o:Oper} {a:Act} {w:World} {Q:Exit->Act->World->Prop}
theorem SZ(hgd:o.guard=none)(x y:Operand)(ho:o.op=.store 9 x y)(w0:World)(b:Nat){v:Value}{d0:Bytes}(i:OB w0 b 35 (bI v d0) w)(d:Bytes)(hx:a.eval x=.pointer (some ⟨b,1,none⟩))(hy:a.eval y=S d)
  (K:∀ w',OB w0 b 35 (bI v d) w'->Tn b w w'->wpList prog ops Q rest (a.put o.dst undef) w'):wpList prog ops Q (o::rest) a w :=
 ex hgd 9 x y ho w0 b 35 (bI v d0) i 1 (S d) hx hy (by show 1<2;decide) bU.1 rfl (bI v d) rfl K
theorem JI(hgd:o.guard=none)(x:Operand)(ho:o.op=.load 9 x)(b:Nat)(T:TypeId)(cs:Array Value)(i:CB w b T cs)(k:Nat)(v:Value)(hc:cs[k]? = some v)(hx:a.eval x=.pointer (some ⟨b,k,none⟩))(K:wpList prog ops Q rest (a.put o.dst v) w):wpList prog ops Q (o::rest) a w :=
 lz hgd v (bK 9 x ho b k v _ underlying9 rfl hx (i.aF hc)) K
theorem Yo(hgd:o.guard=none)(x:Operand)(ho:o.op=.load 4 x)(b:Nat)(T:TypeId)(cs:Array Value)(i:CB w b T cs)(k:Nat)(v:Value)(hc:cs[k]? = some v)(hx:a.eval x=.pointer (some ⟨b,k,none⟩))(K:wpList prog ops Q rest (a.put o.dst v) w):wpList prog ops Q (o::rest) a w :=
 lz hgd v (bK 4 x ho b k v _ underlying4 rfl hx (i.aF hc)) K
theorem Yp(hgd:o.guard=none)(x:Operand)(ho:o.op=.load 28 x)(b:Nat)(T:TypeId)(cs:Array Value)(i:CB w b T cs)(k:Nat)(v:Value)(hc:cs[k]? = some v)(hx:a.eval x=.pointer (some ⟨b,k,none⟩))(K:wpList prog ops Q rest (a.put o.dst v) w):wpList prog ops Q (o::rest) a w :=
 lz hgd v (bK 28 x ho b k v _ underlying28 rfl hx (i.aF hc)) K
theorem a34(hgd:o.guard=none)(x:Operand)(ho:o.op=.load 33 x)(b:Nat)(T:TypeId)(cs:Array Value)(i:CB w b T cs)(k:Nat)(v:Value)(hc:cs[k]? = some v)(hx:a.eval x=.pointer (some ⟨b,k,none⟩))(K:wpList prog ops Q rest (a.put o.dst v) w):wpList prog ops Q (o::rest) a w :=
 lz hgd v (bK 33 x ho b k v _ underlying33 rfl hx (i.aF hc)) K
end
theorem xq{f:Func}{k:Nat}(hf:f.results=#[.cell k 35]){tmps:Array Value}{w0 w2:World}{b:Nat}{v:Value}{d:Bytes}{Post:Ending->World->Prop}(hk:tmps.getD k undef=.pointer (some ⟨b,0,none⟩))
  (i:OB w0 b 35 (bI v d) w2) (hP:Post (.returned (.agg (bI v d))) w2) :
  bodyPost prog f Post Exit.ret {tmps:=tmps,defers:=[]} w2:=by
 have h2':tmps[k]?.getD undef=.pointer (some ⟨b,0,none⟩):=by simpa using hk
 have hl:=i.load (P:=prog) 35 _ underlying35 rfl pO;refine bodyPost_ret (v:=.agg (bI v d)) ?_ rfl hP;simp[results,hf,asAddr,h2',hl]
def kt(w:World)(r:Rd):Ending->World->Prop:=fun e w'=>∃ v,e=.returned (.agg (bI v r.delay))∧fS w' w.heap.size v r.items∧Below w.heap.size w w'
theorem pT(w:World)(bv:Value)(u:Url):∃ W,((w.alloc (.cells (ai bv u) 30)).alloc (.cells (bI aR []) 35)).alloc (.cells (bI aR []) 35)=W∧W.heap.size=w.heap.size+3 ∧
  CB W w.heap.size 30 (ai bv u)∧OB w (w.heap.size+1) 35 (bI aR []) W∧OB w (w.heap.size+2) 35 (bI aR []) W:=by
 have hx:=CB.new w 30 (ai bv u);have hb:=(Below.refl w.heap.size w).alloc (af _) (.cells (ai bv u) 30);obtain⟨w1,hw1⟩:=az (w.alloc (.cells (ai bv u) 30));have hz1:w1.heap.size=w.heap.size+1:=by rw[hw1];simp
 rw[<-hw1]at hx hb ⊢;have hy:=CB.new w1 35 (bI aR []);have hb2:=(Below.refl w1.heap.size w1).alloc (af _) (.cells (bI aR []) 35);obtain⟨w2,hw2⟩:=az (w1.alloc (.cells (bI aR []) 35));have hz2:w2.heap.size=w1.heap.size+1:=by rw[hw2];simp
 rw[<-hw2]at hy hb2 ⊢;have hv:=CB.new w2 35 (bI aR []);have hb3:=(Below.refl w2.heap.size w2).alloc (af _) (.cells (bI aR []) 35);have hz3:(w2.alloc (.cells (bI aR []) 35)).heap.size=w2.heap.size+1:=by simp
 have s2:=iK hb hb2;have s3:=iK s2 hb3;rw[hz1]at hy;rw[hz2,hz1]at hv;exact⟨_,rfl,by rw[hz3,hz2,hz1],(hx.keep hb2).keep hb3,OB.of (hy.keep hb3) (gQ _) s3,OB.of hv (by omega) s3⟩
theorem ME(bu:Url)(bv:Value)(s:Bytes)(w:World)(h8:bu.host.six.length=8)(hbv:Sl w.heap.size w bv (bu.path.map S))(hbs:Bs bu.path)(hs:s.length<=1048576)(hE:Env w) :
  Calls prog 11 #[.int .i64 1,.agg (ai bv bu),.string (bs s)] w (kt w ⟨[dC bu s []],[]⟩):=by
 have Cp:=h_ (fun W (hb:Below w.heap.size w W)=>oP bu bv s W h8 ((hbv.below hb).more hb.size) hbs hs (hE.below hb));have H8:=h_ h8;obtain⟨z,hz⟩:=az (bs s);rw[<-hz]at Cp ⊢;obtain⟨it,hit⟩:=az (dC bu s []);rw[<-hit]at Cp ⊢;have HWD:=h_ (show it.words=[] by rw[hit];unfold dC;split <;>rfl);clear hz hs hE h8 hbv hbs hit;obtain⟨W,hw,hsz,k1,k2,k3⟩:=pT w bv bu;have K1:=h_ k1;have K2:=h_ k2;have K3:=h_ k3;have HW:=h_ hw;have fL:=h_ hsz;clear k1 k2 k3 hw hsz;go_enter func11,ntmps11
 go_upto_region 2 with(first
  |((with_reducible refine ig ?_);refine aS rfl 35 rfl _ _ (tK _) ?_)
  |fail)
 rw[HW.out];have HB2:=h_ (show w.heap.size+2<W.heap.size by have:=fL.out;omega)
 go_upto_region 23 with(first
  |((with_reducible refine ig ?_);refine j7 (by rfl) (.tmp 4) rfl _ bv bu H8.out rfl K1.out ?_)
  |(go_at_call 29;refine(Cp.out _ K2.out.bL).mono ?_;rintro e w3 ⟨pv,rfl,i8,oo,hb⟩;have I8:=h_ i8;have OO:=h_ oo;have HB3:=h_ hb;clear hb oo i8)
  |((with_reducible refine ig ?_);refine pC rfl (.tmp 19) rfl pv aR it I8.out rfl ?_;have hb4:=(Below.refl w3.heap.size w3).alloc (af _) (.cells (ce pv aR it) 41);have Rx:=fS.one (base:=W.heap.size) w3 (pv:=pv) (wv:=aR) (i:=it) ⟨I8.out,OO.out,by rw[HWD.out];exact World.ownsRow_nil _ _ _ _⟩ HB3.out.size;obtain⟨g,hg⟩:∃ g,g=w3.heap.size:=⟨_,rfl⟩;obtain⟨w4,hw4⟩:∃ w4,w4=w3.alloc (.cells (ce pv aR it) 41):=⟨_,rfl⟩;rw[<-hw4,<-hg]at Rx;rw[<-hw4]at hb4;rw[<-hw4,<-hg];have J3:=h_ ((K3.out.below HB3.out).below hb4);have J2:=h_ ((K2.out.below HB3.out).below hb4);have FH:=h_ Rx;clear hw4 hg hb4 Rx)
  |((with_reducible refine ig ?_);refine xn rfl (.tmp 21) (.tmp 20) rfl w (w.heap.size+2) J3.out _ rfl rfl rfl ?_;intro w5 i5 t5;have L3:=h_ i5;have IR5:=h_ (FH.out.tn t5 HB2.out);have L2:=h_ (J2.out.tn t5 (by omega) i5);clear i5 t5)
  |fail)
 clear J2 J3 FH OO HB3 Cp K1 K2 K3
 go_wp2_with (first
  |((with_reducible refine ig ?_);refine wE rfl (.tmp 7) rfl w (w.heap.size+2) _ [] L3.out rfl ?_)
  |((with_reducible refine ig ?_);refine zE rfl (.tmp 6) (.tmp 76) rfl w (w.heap.size+1) L2.out _ [] rfl rfl rfl ?_;intro w6 i6 t6;have L6:=h_ i6;have IR6:=h_ (IR5.out.tn t6 (Nat.lt_of_le_of_lt (gQ _) HB2.out));clear i6 t6)
  |fail)
 exact xq results11 rfl L6.out ⟨_,rfl,IR6.out.base (by have:=fL.out;omega),L6.out.bL⟩
theorem DY(k:Int)(h1:¬ k=1)(h2:¬ k=2)(h3:¬ k=3)(bu:Url)(bv:Value)(z:ByteArray)(w:World) :
  Calls prog 11 #[.int .i64 k,.agg (ai bv bu),.string z] w (kt w ⟨[],[]⟩):=by
 have q1:(k==1)=false:=by simp[h1]
 have q2:(k==2)=false:=by simp[h2]
 have q3:(k==3)=false:=by simp[h3]
 obtain⟨W,hw,hsz,k1,k2,k3⟩:=pT w bv bu;have K2:=h_ k2;have K3:=h_ k3;have HW:=h_ hw;have fL:=h_ hsz;clear k1 k2 k3 hw hsz;go_enter func11,ntmps11
 go_upto_region 2 with(first
  |((with_reducible refine ig ?_);refine aS rfl 35 rfl _ _ (tK _) ?_)
  |fail)
 rw[HW.out]
 go_wp2_with (first
  |((with_reducible refine ig ?_);refine wE rfl (.tmp 7) rfl w (w.heap.size+2) _ [] K3.out rfl ?_)
  |((with_reducible refine ig ?_);refine zE rfl (.tmp 6) (.tmp 76) rfl w (w.heap.size+1) K2.out _ [] rfl rfl rfl ?_;intro w6 i6 t6;have L6:=h_ i6;clear i6 t6)
  |fail)
 exact xq results11 rfl L6.out ⟨_,rfl,fS.nil _ _,L6.out.bL⟩
theorem MD(s:Bytes)(hr:xu s=none)(bu:Url)(bv:Value)(w:World)(h8:bu.host.six.length=8)(hbv:Sl w.heap.size w bv (bu.path.map S))(hbs:Bs bu.path)(hs:s.length<=1000000)(hE:Env w) :
  Calls prog 11 #[.int .i64 3,.agg (ai bv bu),.string (bs s)] w (kt w (fK 3 bu s)):=by
 have Cp:=h_ (fun r W (hr:xu s=some r) (hb:Below w.heap.size w W)=>oP bu bv r.url W h8 ((hbv.below hb).more hb.size) hbs (ap (xw hr) (by omega)) (hE.below hb));have IU:=h_ (fun W (hb:Below w.heap.size w W)=>qY s W hs (hE.below hb));have yj:=h_ (fun W (hb:Below w.heap.size w W)=>je bu.path bv W ((hbv.below hb).more hb.size) (by have:=hbs.1;omega));have H8:=h_ h8
 have Zi:=h_ (show bv.oneCell'=true by
  obtain⟨c,_,_,h⟩:=hbv;rcases h with⟨_,a,rfl⟩|⟨b,o,_,rfl,_⟩ <;>rfl)
 obtain⟨z,hz⟩:=az (bs s);rw[<-hz]at IU ⊢;obtain⟨R,hR⟩:=az (fK 3 bu s);rw[<-hR]
 have hR2:R=match xu s with
  |none=>⟨[],[]⟩
  |some r=>⟨[if r.has=true then dC bu r.url []else⟨true,bu,[]⟩],r.delay⟩:=hR
 clear hz hs hE h8 hbv hbs hR;obtain⟨W,hw,hsz,k1,k2,k3⟩:=pT w bv bu;have K1:=h_ k1;have K2:=h_ k2;have K3:=h_ k3;have HW:=h_ hw;have fL:=h_ hsz;clear k1 k2 k3 hw hsz;have HB2:=h_ (show w.heap.size+2<W.heap.size by have:=fL.out;omega);rw[hr]at hR2;have kC:=h_ (show R=⟨[],[]⟩from hR2);have HP:=h_ (fun W hb=>(show bN prog 31 #[.string z] W (.tuple #[.agg (cW R0),.bool false])from by have h:=IU.out W hb;rw[hr]at h;exact h));clear hr hR2 Cp yj IU;go_enter func11,ntmps11
 go_upto_region 2 with(first
  |((with_reducible refine ig ?_);refine aS rfl 35 rfl _ _ (tK _) ?_)
  |fail)
 rw[HW.out]
 go_wp2_with (first
  |(go_at_call 31;refine(HP.out _ K2.out.bL).mono ?_;rintro e w3 ⟨rfl,hb⟩;have J2:=h_ (K2.out.below hb);have J3:=h_ (K3.out.below hb);clear hb)
  |((with_reducible refine ig ?_);refine aS rfl 63 rfl _ _ (OY _) ?_)
  |((with_reducible refine ig ?_);refine newR rfl (.tmp 11) (.tmp 51) rfl R0 rfl rfl rfl ?_;intro w4 i4;have L2:=h_ (J2.out.below i4.bL);have L3:=h_ (J3.out.below i4.bL);clear i4)
  |((with_reducible refine ig ?_);refine wE rfl (.tmp 7) rfl w (w.heap.size+2) _ [] L3.out rfl ?_)
  |((with_reducible refine ig ?_);refine zE rfl (.tmp 6) (.tmp 55) rfl w (w.heap.size+1) L2.out _ [] rfl rfl rfl ?_;intro w6 i6 t6;have L6:=h_ i6;clear i6 t6)
  |fail)
 exact xq results11 rfl L6.out ⟨_,by rw[kC.out],by rw[kC.out];exact fS.nil _ _,L6.out.bL⟩

theorem MG(s dl ur:Bytes)(hr:xu s=some ⟨dl,true,ur⟩)(bu:Url)(bv:Value)(w:World)(h8:bu.host.six.length=8)(hbv:Sl w.heap.size w bv (bu.path.map S))(hbs:Bs bu.path)(hs:s.length<=1000000)(hE:Env w) :
  Calls prog 11 #[.int .i64 3,.agg (ai bv bu),.string (bs s)] w (kt w (fK 3 bu s)):=by
 have Cp:=h_ (fun r W (hr:xu s=some r) (hb:Below w.heap.size w W)=>oP bu bv r.url W h8 ((hbv.below hb).more hb.size) hbs (ap (xw hr) (by omega)) (hE.below hb));have IU:=h_ (fun W (hb:Below w.heap.size w W)=>qY s W hs (hE.below hb));have yj:=h_ (fun W (hb:Below w.heap.size w W)=>je bu.path bv W ((hbv.below hb).more hb.size) (by have:=hbs.1;omega));have H8:=h_ h8
 have Zi:=h_ (show bv.oneCell'=true by
  obtain⟨c,_,_,h⟩:=hbv;rcases h with⟨_,a,rfl⟩|⟨b,o,_,rfl,_⟩ <;>rfl)
 obtain⟨z,hz⟩:=az (bs s);rw[<-hz]at IU ⊢;obtain⟨R,hR⟩:=az (fK 3 bu s);rw[<-hR]
 have hR2:R=match xu s with
  |none=>⟨[],[]⟩
  |some r=>⟨[if r.has=true then dC bu r.url []else⟨true,bu,[]⟩],r.delay⟩:=hR
 clear hz hs hE h8 hbv hbs hR;obtain⟨W,hw,hsz,k1,k2,k3⟩:=pT w bv bu;have K1:=h_ k1;have K2:=h_ k2;have K3:=h_ k3;have HW:=h_ hw;have fL:=h_ hsz;clear k1 k2 k3 hw hsz;have HB2:=h_ (show w.heap.size+2<W.heap.size by have:=fL.out;omega);rw[hr]at hR2;have HP:=h_ (fun W hb=>(show bN prog 31 #[.string z] W (.tuple #[.agg (cW ⟨dl,true,ur⟩),.bool true])from by have h:=IU.out W hb;rw[hr]at h;exact h));have HI:=h_ (fun W hb=>Cp.out _ W hr hb);obtain⟨it,hit⟩:=az (dC bu ur []);have kC:=h_ (show R=⟨[it],dl⟩from by rw[hit];exact hR2);have HWD:=h_ (show it.words=[] by rw[hit];unfold dC;split <;>rfl);have HIT:=h_ (fun W hb=>(show Calls prog 29 #[.agg (ai bv bu),S ur] W (a3h W it)from by rw[hit];exact HI.out W hb));clear hr hR2 Cp yj IU hit HI;go_enter func11,ntmps11
 go_upto_region 2 with(first
  |((with_reducible refine ig ?_);refine aS rfl 35 rfl _ _ (tK _) ?_)
  |fail)
 rw[HW.out]
 go_upto_region 19 with(first
  |(go_at_call 31;refine(HP.out _ K2.out.bL).mono ?_;rintro e w3 ⟨rfl,hb⟩;have HB3:=h_ hb;clear hb)
  |((with_reducible refine ig ?_);refine aS rfl 63 rfl _ _ (OY _) ?_)
  |((with_reducible refine ig ?_);refine newR rfl (.tmp 11) (.tmp 51) rfl ⟨dl,true,ur⟩ rfl rfl rfl ?_;intro w4 i4;have I4:=h_ i4;have L2:=h_ ((K2.out.below HB3.out).below i4.bL);have L3:=h_ ((K3.out.below HB3.out).below i4.bL);have M1:=h_ ((K1.out.keep HB3.out).keep i4.bL);clear i4)
  |((with_reducible refine ig ?_);refine JI rfl (.tmp 56) rfl w3.heap.size 63 (cW ⟨dl,true,ur⟩) I4.out.cb 0 (S dl) rfl rfl ?_)
  |((with_reducible refine ig ?_);refine SZ rfl (.tmp 58) (.tmp 57) rfl w (w.heap.size+2) L3.out dl rfl rfl ?_;intro w5 i5 t5;have N3:=h_ i5;have N2:=h_ (L2.out.tn t5 (by omega) i5);have N1:=h_ (t5.cb M1.out (by omega));have N4:=h_ (t5.cb I4.out.cb (by have:=HB2.out;have:=HB3.out.size;omega));clear i5 t5)
  |((with_reducible refine ig ?_);refine Yo rfl (.tmp 59) rfl w3.heap.size 63 (cW ⟨dl,true,ur⟩) N4.out 1 (.bool true) rfl rfl ?_)
  |fail)
 go_upto_region 23 with(first
  |((with_reducible refine ig ?_);refine j7 (by rfl) (.tmp 4) rfl _ bv bu H8.out rfl N1.out ?_)
  |((with_reducible refine ig ?_);refine JI rfl (.tmp 62) rfl w3.heap.size 63 (cW ⟨dl,true,ur⟩) N4.out 2 (S ur) rfl rfl ?_)
  |(go_at_call 29;refine(HIT.out _ N2.out.bL).mono ?_;rintro e w6 ⟨pv,rfl,i8,oo,hb⟩;have I8:=h_ i8;have OO:=h_ oo;have jM:=h_ hb;clear hb oo i8)
  |((with_reducible refine ig ?_);refine pC rfl (.tmp 64) rfl pv aR it I8.out rfl ?_;have hb4:=(Below.refl w6.heap.size w6).alloc (af _) (.cells (ce pv aR it) 41);have Rx:=fS.one (base:=w5.heap.size) w6 (pv:=pv) (wv:=aR) (i:=it) ⟨I8.out,OO.out,by rw[HWD.out];exact World.ownsRow_nil _ _ _ _⟩ jM.out.size;obtain⟨g,hg⟩:∃ g,g=w6.heap.size:=⟨_,rfl⟩;obtain⟨w7,hw7⟩:∃ w7,w7=w6.alloc (.cells (ce pv aR it) 41):=⟨_,rfl⟩;rw[<-hw7,<-hg]at Rx;rw[<-hw7]at hb4;rw[<-hw7,<-hg];have J3:=h_ ((N3.out.below jM.out).below hb4);have J2:=h_ ((N2.out.below jM.out).below hb4);have FH:=h_ Rx;clear hw7 hg hb4 Rx)
  |((with_reducible refine ig ?_);refine xn rfl (.tmp 66) (.tmp 65) rfl w (w.heap.size+2) J3.out _ rfl rfl rfl ?_;intro w8 i8 t8;have L8:=h_ i8;have Uh:=h_ (FH.out.tn t8 N3.out.lt);have L7:=h_ (J2.out.tn t8 (by omega) i8);clear i8 t8)
  |fail)
 clear HIT
 go_wp2_with (first
  |((with_reducible refine ig ?_);refine wE rfl (.tmp 7) rfl w (w.heap.size+2) _ dl L8.out rfl ?_)
  |((with_reducible refine ig ?_);refine zE rfl (.tmp 6) (.tmp 76) rfl w (w.heap.size+1) L7.out _ dl rfl rfl rfl ?_;intro w9 i9 t9;have L9:=h_ i9;have Zx:=h_ (Uh.out.tn t9 N2.out.lt);clear i9 t9)
  |fail)
 exact xq results11 rfl L9.out ⟨_,by rw[kC.out],by rw[kC.out];exact Zx.out.base N3.out.bL.size,L9.out.bL⟩

theorem a1M(pv v:Value)(u:Url)(h8:u.host.six.length=8):(ai pv u).setIfInBounds 18 v=ai v u:=(gw pv u h8).path v u.path
theorem GX(s dl ur:Bytes)(hr:xu s=some ⟨dl,false,ur⟩)(bu:Url)(bv:Value)(w:World)(h8:bu.host.six.length=8)(hbv:Sl w.heap.size w bv (bu.path.map S))(hbs:Bs bu.path)(hs:s.length<=1000000)(hE:Env w) :
  Calls prog 11 #[.int .i64 3,.agg (ai bv bu),.string (bs s)] w (kt w (fK 3 bu s)):=by
 have Cp:=h_ (fun r W (hr:xu s=some r) (hb:Below w.heap.size w W)=>oP bu bv r.url W h8 ((hbv.below hb).more hb.size) hbs (ap (xw hr) (by omega)) (hE.below hb));have IU:=h_ (fun W (hb:Below w.heap.size w W)=>qY s W hs (hE.below hb));have yj:=h_ (fun W (hb:Below w.heap.size w W)=>je bu.path bv W ((hbv.below hb).more hb.size) (by have:=hbs.1;omega));have H8:=h_ h8
 have Zi:=h_ (show bv.oneCell'=true by
  obtain⟨c,_,_,h⟩:=hbv;rcases h with⟨_,a,rfl⟩|⟨b,o,_,rfl,_⟩ <;>rfl)
 obtain⟨z,hz⟩:=az (bs s);rw[<-hz]at IU ⊢;obtain⟨R,hR⟩:=az (fK 3 bu s);rw[<-hR]
 have hR2:R=match xu s with
  |none=>⟨[],[]⟩
  |some r=>⟨[if r.has=true then dC bu r.url []else⟨true,bu,[]⟩],r.delay⟩:=hR
 clear hz hs hE h8 hbv hbs hR;obtain⟨W,hw,hsz,k1,k2,k3⟩:=pT w bv bu;have K1:=h_ k1;have K2:=h_ k2;have K3:=h_ k3;have HW:=h_ hw;have fL:=h_ hsz;clear k1 k2 k3 hw hsz;have HB2:=h_ (show w.heap.size+2<W.heap.size by have:=fL.out;omega);rw[hr]at hR2;have HP:=h_ (fun W hb=>(show bN prog 31 #[.string z] W (.tuple #[.agg (cW ⟨dl,false,ur⟩),.bool true])from by have h:=IU.out W hb;rw[hr]at h;exact h));have HI:=h_ (fun W hb=>Cp.out _ W hr hb);have kC:=h_ (show R=⟨[⟨true,bu,[]⟩],dl⟩from hR2);have UA:=h_ (uF bv bu H8.out);have Cd:=h_ (fun v=>a1M bv v bu H8.out);have Ar:=h_ (show 18<(ai bv bu).size from gy H8.out (by decide));clear hr hR2 Cp IU HI;go_enter func11,ntmps11
 go_upto_region 2 with(first
  |((with_reducible refine ig ?_);refine aS rfl 35 rfl _ _ (tK _) ?_)
  |fail)
 rw[HW.out]
 go_upto_region 20 with(first
  |(go_at_call 31;refine(HP.out _ K2.out.bL).mono ?_;rintro e w3 ⟨rfl,hb⟩;have HB3:=h_ hb;clear hb)
  |((with_reducible refine ig ?_);refine aS rfl 63 rfl _ _ (OY _) ?_)
  |((with_reducible refine ig ?_);refine newR rfl (.tmp 11) (.tmp 51) rfl ⟨dl,false,ur⟩ rfl rfl rfl ?_;intro w4 i4;have I4:=h_ i4;have L2:=h_ ((K2.out.below HB3.out).below i4.bL);have L3:=h_ ((K3.out.below HB3.out).below i4.bL);have M1:=h_ ((K1.out.keep HB3.out).keep i4.bL);clear i4)
  |((with_reducible refine ig ?_);refine JI rfl (.tmp 56) rfl w3.heap.size 63 (cW ⟨dl,false,ur⟩) I4.out.cb 0 (S dl) rfl rfl ?_)
  |((with_reducible refine ig ?_);refine SZ rfl (.tmp 58) (.tmp 57) rfl w (w.heap.size+2) L3.out dl rfl rfl ?_;intro w5 i5 t5;have N3:=h_ i5;have N2:=h_ (L2.out.tn t5 (by omega) i5);have N1:=h_ (t5.cb M1.out (by omega));have N4:=h_ (t5.cb I4.out.cb (by have:=HB2.out;have:=HB3.out.size;omega));clear i5 t5)
  |((with_reducible refine ig ?_);refine Yo rfl (.tmp 59) rfl w3.heap.size 63 (cW ⟨dl,false,ur⟩) N4.out 1 (.bool false) rfl rfl ?_)
  |fail)
 clear HP HW
 go_upto_region 21 with(first
  |((with_reducible refine ig ?_);refine j7 (by rfl) (.tmp 4) rfl _ bv bu H8.out rfl N1.out ?_;refine aS rfl 30 rfl _ _ (ef _) ?_;refine fP rfl (.tmp 13) (.tmp 67) rfl bv bu H8.out Zi.out rfl rfl rfl ?_;intro w6 c6 b6;have I6:=h_ (OB.of c6 (af _) b6);have O1:=h_ (N1.out.keep b6);have O2:=h_ (N2.out.below b6);have O3:=h_ (N3.out.below b6);clear c6 b6)
  |fail)
 have lZ:=h_ (show w5.heap.size<w6.heap.size∧w.heap.size+2<w5.heap.size from⟨I6.out.lt,N3.out.lt⟩);have HW5:=h_ N3.out.bL;obtain⟨g5,hg5⟩:=az (w5.heap.size);rw[<-hg5]at I6 lZ ⊢;have HG5:=h_ hg5;clear hg5 N1 N2 N3 N4 I4 L2 L3 M1 HB3
 go_upto_region 22 with(first
  |((with_reducible refine ig ?_);refine Yp rfl (.tmp 68) rfl w.heap.size 30 (ai bv bu) O1.out 18 bv UA.out.path rfl ?_)
  |(go_at_call 30;refine(yj.out _ O2.out.bL).mono ?_;rintro e w7 ⟨v7,rfl,oo,hb⟩;have OO:=h_ (fE oo);have HS7:=h_ hb.size;have I7:=h_ (I6.out.below hb);have P2:=h_ (O2.out.below hb);have P3:=h_ (O3.out.below hb);clear oo hb)
  |((with_reducible refine ig ?_);refine ex rfl 28 (.tmp 71) (.tmp 70) rfl w5 g5 30 (ai bv bu) I7.out 18 v7 rfl rfl Ar.out dP (bm OO.out) (ai v7 bu) (Cd.out v7) ?_;intro w8 i8 t8;have I8:=h_ i8;have OO8:=h_ (t8.row OO.out lZ.out.1);have Cc:=h_ (ap HS7.out t8.s);have Q3:=h_ (OB.of (t8.cb P3.out.cb (by have:=lZ.out.2;omega)) P3.out.le (iK HW5.out i8.bL));have Q2:=h_ (OB.of (t8.cb P2.out.cb (by have:=lZ.out.2;omega)) P2.out.le (iK HW5.out i8.bL));clear i8 t8)
  |fail)
 clear I6 I7 P2 P3 O1 O2 O3 OO yj
 go_upto_region 23 with(first
  |((with_reducible refine ig ?_);refine j7 (by rfl) (.tmp 13) rfl _ v7 bu H8.out rfl I8.out.cb ?_;refine jw rfl 41 #[(0,.const (.bool true)),(1,.tmp 72)] rfl (.agg (ce v7 aR ⟨true,bu,[]⟩)) #[(0,.bool true),(1,.agg (ai v7 bu))] (by simp only[nQ,dw,yl];rfl) (Yg v7 bu H8.out) ?_;refine pC rfl (.tmp 73) rfl v7 aR ⟨true,bu,[]⟩ H8.out rfl ?_;have hb4:=(Below.refl w8.heap.size w8).alloc (af _) (.cells (ce v7 aR ⟨true,bu,[]⟩) 41);have Rx:=fS.one (base:=w6.heap.size) w8 (pv:=v7) (wv:=aR) (i:=⟨true,bu,[]⟩) ⟨H8.out,OO8.out,World.ownsRow_nil _ _ _ _⟩ Cc.out;obtain⟨g,hg⟩:∃ g,g=w8.heap.size:=⟨_,rfl⟩;obtain⟨w9,Rg⟩:∃ w9,w9=w8.alloc (.cells (ce v7 aR ⟨true,bu,[]⟩) 41):=⟨_,rfl⟩;rw[<-Rg,<-hg]at Rx;rw[<-Rg]at hb4;rw[<-Rg,<-hg];have J3:=h_ (Q3.out.below hb4);have J2:=h_ (Q2.out.below hb4);have FH:=h_ Rx;clear Rg hg hb4 Rx)
  |((with_reducible refine ig ?_);refine xn rfl (.tmp 75) (.tmp 74) rfl w (w.heap.size+2) J3.out _ rfl rfl rfl ?_;intro wa ia ta;have L8:=h_ ia;have Uh:=h_ (FH.out.tn ta (by have:=lZ.out;omega));have L7:=h_ (J2.out.tn ta (by omega) ia);clear ia ta)
  |fail)
 go_wp2_with (first
  |((with_reducible refine ig ?_);refine wE rfl (.tmp 7) rfl w (w.heap.size+2) _ dl L8.out rfl ?_)
  |((with_reducible refine ig ?_);refine zE rfl (.tmp 6) (.tmp 76) rfl w (w.heap.size+1) L7.out _ dl rfl rfl rfl ?_;intro wb ib tb;have L9:=h_ ib;have Zx:=h_ (Uh.out.tn tb (by have:=lZ.out;omega));clear ib tb)
  |fail)
 exact xq results11 rfl L9.out ⟨_,by rw[kC.out],by rw[kC.out];exact Zx.out.base (by have:=lZ.out;omega),L9.out.bL⟩

theorem k8.tn{b:Nat}{w w':World}{base:Nat}{v:Value}{l:List da}(c:k8 w base v l)(h:Tn b w w')(hb:b<base):k8 w' base v l:=by
 obtain⟨ps,h1,h2,h3⟩:=c;exact⟨ps,h1,h.BB h2 hb,fun p hp=>h.BB (h3 p hp) hb⟩
theorem PL{B:Nat}{W:World}{a:Option Addr}{n c:Nat}{l:List da}(h:XI B W (.slice a n c) l)(k:Nat)(hk:k<l.length) :
  ∃b o wv,a=some ⟨b,o,none⟩∧b<B∧W.rangeAt b (o+k*8) (bA wv l[k]).toList∧Sl B W wv (l[k].words.map S):=by
 obtain⟨c',_,h⟩:=h;rcases h with⟨rfl,_⟩|⟨b,o,hb,hv,ha⟩
 ·simp at hk
 injection hv with h1 h2 h3
 obtain⟨wv,h4,h5⟩:=ha k hk;exact⟨b,o,wv,h1,hb,h4,h5⟩
theorem OB.base{w0 W W2:World}{b:Nat}{T:TypeId}{cs:Array Value}{B:Nat}(i:OB w0 b T cs W)(h:Below B W W2)(hb:b<B)(hB:w0.heap.size<=B):OB w0 b T cs W2:=⟨(h.block b hb).trans i.a,i.le,i.bL.trans (h.mono hB)⟩
theorem Tn.ZQ{b B:Nat}{w W W2:World}(h:Tn b w W)(k:Below B W W2)(hB:w.heap.size<=B):Tn b w W2 :=
 ⟨ap h.s k.size,fun j hj hn=>(k.block j (by omega)).trans (h.k j hj hn)⟩
theorem RC(pv wv v:Value)(i:eG)(h8:i.url.host.six.length=8)(ws:List Bytes):(ce pv wv i).setIfInBounds 24 v=ce pv v {i with words:=ws}:=by
 obtain⟨rt,⟨aH,usr,fp,⟨hk,hn,hf,six⟩,a1,a2,a3,a4,a5,a6,a7,a8,a9⟩,w0⟩:=i;simp only at h8;obtain⟨a,b,c,d,e,f,g,i,rfl⟩:=eight h8;rfl
section
variable {ops:Array Oper} {rest:List Oper} {o:Oper} {a:Act} {w:World} {Q:Exit->Act->World->Prop}
theorem a8R(hgd:o.guard=none)(x:Operand)(ho:o.op=.load 45 x)(b k:Nat)(wv:Value)(c:da)(hr:w.rangeAt b k (bA wv c).toList)(hx:a.eval x=.pointer (some ⟨b,k,none⟩))(K:wpList prog ops Q rest (a.put o.dst (.agg (bA wv c))) w):wpList prog ops Q (o::rest) a w :=
 lz hgd (.agg (bA wv c)) (iX 45 x ho b k (bA wv c).toList _ underlying45 rfl oA hx hr) K
theorem newC{W:World}(hgd:o.guard=none)(x y:Operand)(ho:o.op=.store 45 x y)(wv:Value)(c:da)(h1:wv.oneCell'=true)(hW:W=w.alloc (.cells (bA aR C0) 45))(hx:a.eval x=.pointer (some ⟨w.heap.size,0,none⟩))(hy:a.eval y=.agg (bA wv c))
  (k:∀ w',CB w' w.heap.size 45 (bA wv c)->Below w.heap.size w w'->wpList prog ops Q rest (a.put o.dst undef) w'):wpList prog ops Q (o::rest) a W :=
 mg hgd _ x y ho (bA wv c) (bA aR C0) oA rfl (all_oneCell_toArray (Js h1)) hW hx hy k
theorem a09{W:World}(hgd:o.guard=none)(x y:Operand)(ho:o.op=.store 41 x y)(pv wv:Value)(it:eG)(h8:it.url.host.six.length=8)(hp:pv.oneCell'=true)(hw:wv.oneCell'=true)(hW:W=w.alloc (.cells (ce aR aR I0) 41))(hx:a.eval x=.pointer (some ⟨w.heap.size,0,none⟩))(hy:a.eval y=.agg (ce pv wv it))
  (k:∀ w',OB w w.heap.size 41 (ce pv wv it) w'->wpList prog ops Q rest (a.put o.dst undef) w'):wpList prog ops Q (o::rest) a W :=
 mg hgd _ x y ho (ce pv wv it) (ce aR aR I0) (by rw[qQ h8];exact rQ) (by rw[qQ h8];rfl) (all_oneCell_toArray (JS hp hw)) hW hx hy fun w' c b=>k w' (OB.of c (af _) b)
theorem a8S(hgd:o.guard=none)(x:Operand)(ho:o.op=.load 41 x)(w0:World)(b:Nat)(pv wv:Value)(it:eG)(h8:it.url.host.six.length=8)(i:OB w0 b 41 (ce pv wv it) w)(hx:a.eval x=.pointer (some ⟨b,0,none⟩))(K:wpList prog ops Q rest (a.put o.dst (.agg (ce pv wv it))) w):wpList prog ops Q (o::rest) a w :=
 DH hgd _ x ho w0 b 41 (ce pv wv it) i _ hx underlying41 rfl (by rw[qQ h8];exact rQ) K
end

theorem GY(bu:Url)(bv:Value)(s:Bytes)(w:World)(h8:bu.host.six.length=8)(hbv:Sl w.heap.size w bv (bu.path.map S))(hbs:Bs bu.path)(hs:s.length<=900000000)(hu:∀ c∈iG s,c.url.length<=1048576)(hE:Env w) :
  Calls prog 11 #[.int .i64 2,.agg (ai bv bu),.string (bs s)] w (kt w (fK 2 bu s)):=by
 have hlim:=pQ s;have Cp:=h_ (fun(c:da) W (hc:c∈iG s) (hb:Below w.heap.size w W)=>oP bu bv c.url W h8 ((hbv.below hb).more hb.size) hbs (hu c hc) (hE.below hb));have j0:=h_ (fun W (hb:Below w.heap.size w W)=>BK s W (by omega) (hE.below hb));have UO:=h_ (fun(c:da) (hc:c∈iG s)=>(show c.words.length<=1024000000 by have:=(hlim.2 c hc).2;omega));have H8:=h_ h8;obtain⟨z,hz⟩:=az (bs s);rw[<-hz]at j0 ⊢;obtain⟨f,hf⟩:∃ f:da->eG,f=fun c=>dC bu c.url c.words:=⟨_,rfl⟩;obtain⟨l,hl⟩:=az (iG s);have hR:fK 2 bu s=⟨l.map f,[]⟩:=by rw[hf,hl];rfl
 rw[hR];have hln:l.length<=900000000:=by rw[hl];exact ap hlim.1 hs
 have HF:=h_ (fun c=>(show f c={dC bu c.url []with words:=c.words} by rw[hf];show dC bu c.url c.words=_;unfold dC;cases lX bu c.url <;>rfl));have HFW:=h_ (fun c:da=>(show(dC bu c.url []).words=[] by unfold dC;split <;>rfl));rw[<-hl]at Cp j0 UO;obtain⟨N,hN⟩:=az (l.length);have HN:=h_ hN;rw[<-hN]at hln;clear hz hs hu hE h8 hbv hbs hR hf hl hlim hN;obtain⟨W,hw,hsz,k1,k2,k3⟩:=pT w bv bu;have K1:=h_ k1;have K2:=h_ k2;have K3:=h_ k3;have HW:=h_ hw;have fL:=h_ hsz;clear k1 k2 k3 hw hsz;go_enter func11,ntmps11
 go_upto_region 2 with(first
  |((with_reducible refine ig ?_);refine aS rfl 35 rfl _ _ (tK _) ?_)
  |fail)
 rw[HW.out]
 go_upto_region 7 with(first
  |(go_at_call 13;refine(j0.out _ K2.out.bL).mono ?_;rintro e w3 ⟨v,rfl,cr,hb⟩;obtain⟨av,cp,rfl⟩:=cr.len;rw[<-HN.out]at cr ⊢;have CR:=h_ cr;have HB3:=h_ hb;clear cr hb)
  |fail)
 have HB2:=h_ (show w.heap.size+2<W.heap.size by have:=fL.out;omega);have C1:=h_ (K1.out.keep HB3.out);have C2:=h_ (K2.out.below HB3.out);have C3:=h_ (K3.out.below HB3.out);have Ue:=h_ HB3.out.size;have hs3:=HB3.out.size;clear HB3 K1 K2 K3 HW j0
 go_loopw [9,10,27] (fun _ _ iv wr=>∃ (k:Nat) (v2:Value),k<=N∧iv=.int .i64 k∧Hid (OB w (w.heap.size+2) 35 (bI v2 []) wr)∧Hid (Tn (w.heap.size+2) w3 wr)∧Hid (fS wr w3.heap.size v2 ((l.take k).map f))) (fun _ _ i _=>N-(intOf i).toNat)
 case atStart=>exact⟨0,aR,aK _,rfl,C3,h_ (Tn.refl _ _),h_ (fS.nil _ _)⟩
 case round =>
  obtain⟨k,v2,hk,rfl,D3,TN,IR⟩:=hrel;by_cases hkN:k<N
  ·have hkl:k<l.length:=by have:=HN.out;omega
   obtain⟨c,hc⟩:=az (l[k]);have HCM:=h_ (show c∈l by rw[hc];exact bw hkl);have htk:l.take (k+1)=l.take k++[c]:=by rw[hc,List.take_add_one,aJ hkl];rfl
   have yr:=h_ htk;have hca:=(CR.out.tn TN.out HB2.out).a3P (by rw[<-HN.out];exact ap hln (by decide));obtain⟨cb,co,wv,hav,hcb,hra,hsw⟩:=PL hca k hkl;rw[<-hc]at hra hsw;have a9b:=hav;subst hav;have dH:=h_ hra;have HSW:=h_ hsw;have HWO:=h_ (BH hsw);have D2:=h_ (OB.of (TN.out.cb C2.out.cb (by omega)) C2.out.le D3.out.bL);have D1:=h_ (TN.out.cb C1.out (by omega));have HSR:=h_ TN.out.s;have HIT:=h_ (fun W hb=>Cp.out c W HCM.out hb);clear hc htk hca hra hsw a9b hkl
   go_upto_region 9 with(first
    |((with_reducible refine ig ?_);refine a8R rfl (.tmp 29) rfl cb (co+k*8) wv c dH.out rfl ?_;refine aS rfl 45 rfl _ _ (Lj _) ?_;refine newC rfl (.tmp 9) (.tmp 30) rfl wv c HWO.out rfl rfl rfl ?_;intro w4 c4 b4;have Q4:=h_ c4;have B4:=h_ b4;clear c4 b4)
    |fail)
   have E1:=h_ (D1.out.keep B4.out);have E2:=h_ (D2.out.below B4.out);have a3a:=h_ ((HSW.out.below B4.out).more B4.out.size);have E3:=h_ (D3.out.below B4.out);have TN4:=h_ (TN.out.below B4.out);have FH:=h_ (IR.out.below B4.out);have SQ4:=h_ (show wr.heap.size<w4.heap.size from Q4.out.lt);obtain⟨q4,hq4⟩:=az (wr.heap.size);have HQ4:=h_ (show w3.heap.size<=q4 by rw[hq4];exact TN.out.s);rw[<-hq4]at Q4 SQ4 ⊢;clear dH HSW D1 D2 D3 TN IR B4 hq4 HSR
   go_upto_region 10 with(first
    |((with_reducible refine ig ?_);refine j7 (by rfl) (.tmp 4) rfl _ bv bu H8.out rfl E1.out ?_)
    |((with_reducible refine ig ?_);refine JI rfl (.tmp 32) rfl q4 45 (bA wv c) Q4.out 0 (S c.url) rfl rfl ?_)
    |(go_at_call 29;refine(HIT.out _ E2.out.bL).mono ?_;rintro e w5 ⟨pv,rfl,i8,oo,hb⟩;have I8:=h_ i8;have OO:=h_ oo;have B5:=h_ hb;clear hb oo i8)
    |((with_reducible refine ig ?_);refine aS rfl 41 rfl _ _ (CD _) ?_;refine a09 rfl (.tmp 10) (.tmp 34) rfl pv aR (dC bu c.url []) I8.out (bm OO.out) rfl rfl rfl rfl ?_;intro w6 i6;have I6:=h_ i6;clear i6)
    |fail)
   have B6:=h_ (I6.out.bL);have F1:=h_ (E1.out.keep B5.out);have F2:=h_ (E2.out.below B5.out);have F3:=h_ (E3.out.below B5.out);have Q6:=h_ ((Q4.out.keep B5.out).keep B6.out);have TN5:=h_ (TN4.out.below B5.out);have IR5:=h_ (FH.out.below B5.out);have X2:=h_ ((((a3a.out.below B5.out).more B5.out.size).below B6.out).more B6.out.size);obtain⟨q6,hq6⟩:=az (w5.heap.size)
   have HQ6:=h_ (show q6<w6.heap.size∧w3.heap.size<=w4.heap.size∧w3.heap.size<=w6.heap.size by
    have h1:=I6.out.lt;have h2:=B5.out.size;have h3:=HQ4.out;have h4:=SQ4.out;rw[hq6];omega)
   rw[<-hq6]at I6 ⊢;clear E1 E2 E3 Q4 TN4 FH a3a hq6 HIT B6 B5
   go_upto_region 11 with(first
    |((with_reducible refine ig ?_);refine Yp rfl (.tmp 35) rfl q4 45 (bA wv c) Q6.out 1 wv rfl rfl ?_)
    |(go_at_call 30;refine(je c.words wv _ X2.out (UO.out c HCM.out)).mono ?_;rintro e w7 ⟨v7,rfl,oo,hb⟩;have R7:=h_ (fE oo);have I7:=h_ (I6.out.below hb);clear oo hb)
    |((with_reducible refine ig ?_);refine ex rfl 28 (.tmp 38) (.tmp 37) rfl w5 q6 41 (ce pv aR (dC bu c.url [])) I7.out 24 v7 rfl rfl (by rw[qQ I8.out];decide) dP (bm R7.out) (ce pv v7 {dC bu c.url []with words:=c.words}) (RC pv aR v7 (dC bu c.url []) I8.out c.words) ?_;intro w8 i8 t8;have J8:=h_ i8;have R8:=h_ (t8.row R7.out HQ6.out.1);clear i8 t8)
    |fail)
   have G1:=h_ (F1.out.keep J8.out.bL);have G2:=h_ (F2.out.below J8.out.bL);have G3:=h_ (F3.out.below J8.out.bL);have TN8:=h_ (TN5.out.below J8.out.bL);have Uh:=h_ (IR5.out.below J8.out.bL);have OO8:=h_ (own_below' OO.out J8.out.bL);obtain⟨it,hit⟩:=az (f c);have HIT:=h_ hit;rw[HF.out]at hit;have H6:=h_ (show it.url.host.six.length=8 by rw[hit];exact I8.out);have IP:=h_ (show mw w8 w3.heap.size ((pv,v7),it)from⟨H6.out,by rw[hit];exact kZ OO8.out HQ6.out.2.1,by rw[hit];exact kZ R8.out HQ6.out.2.2⟩);rw[<-hit]at J8;have OL:=h_ (show((l.take k).map f).length+1<=1000000000 by rw[am,aE];omega);have S38:=h_ TN8.out.s;clear F1 F2 F3 Q6 TN5 IR5 X2 OO OO8 R7 R8 I6 I7 hit
   go_upto_region 12 with(first
    |((with_reducible refine ig ?_);refine a34 rfl (.tmp 39) rfl (w.heap.size+2) 35 (bI v2 []) G3.out.cb 0 v2 rfl rfl ?_)
    |((with_reducible refine ig ?_);refine a8S rfl (.tmp 10) rfl w5 q6 pv v7 it H6.out J8.out rfl ?_;refine pC rfl (.tmp 41) rfl pv v7 it H6.out rfl ?_;refine a5K rfl (.tmp 40) (.tmp 42) rfl w3.heap.size rfl Uh.out IP.out rfl OL.out S38.out ?_;intro v9 w9 ir9 b9;have Zx:=h_ ir9;have B9:=h_ b9;have H3:=h_ (G3.out.base b9 (aQ HB2.out Ue.out) (by have:=HB2.out;have:=Ue.out;omega));clear ir9 b9)
    |((with_reducible refine ig ?_);refine xn rfl (.tmp 44) (.tmp 43) rfl w (w.heap.size+2) H3.out v9 (fS.one' Zx.out) rfl rfl ?_;intro BX rP t10;have L10:=h_ rP;have ZA:=h_ t10;clear rP t10)
    |fail)
   have a8D:=h_ ((TN8.out.ZQ B9.out (af _)).trans ZA.out);have a8s:=h_ (Zx.out.tn ZA.out (aQ HB2.out Ue.out));have HMP:=h_ (show(l.take k).map f++[it]=(l.take (k+1)).map f by rw[yr.out,py,HIT.out];rfl);clear G1 G2 G3 TN8 Uh J8 IP B9 Zx H3 ZA
   go_wp2_with fail
   go_roundw
   case rel=>exact⟨k+1,v9,by omega,by go_num,L10,a8D,by rw[<-HMP.out];exact a8s⟩
   case measure=>simp[intOf];omega
  obtain rfl:k=N:=by omega
  have D2:=h_ (OB.of (TN.out.cb C2.out.cb (by omega)) C2.out.le D3.out.bL);have Ap:=h_ (show l.take k=l by rw[HN.out];exact dx)
  go_wp2_with (first
   |((with_reducible refine ig ?_);refine wE rfl (.tmp 7) rfl w (w.heap.size+2) _ [] D3.out rfl ?_)
   |((with_reducible refine ig ?_);refine zE rfl (.tmp 6) (.tmp 76) rfl w (w.heap.size+1) D2.out _ [] (fS.one' IR.out) rfl rfl ?_;intro w6 i6 t6;have L6:=h_ i6;have IR6:=h_ (IR.out.tn t6 (by have:=HB2.out;omega));clear i6 t6)
   |fail)
  exact xq results11 rfl L6.out ⟨_,rfl,by rw[<-Ap.out];exact IR6.out.base (by have:=HB2.out;omega),L6.out.bL⟩

theorem Xt:∀ (k:Nat) (_:k<6) (w:World),(Instr.index 122 (.agg #[.string ⟨#[38,97,109,112,59]⟩,.string ⟨#[38,35,51,52,59]⟩,.string ⟨#[38,35,51,57,59]⟩,.string ⟨#[38,35,54,48,59]⟩,.string ⟨#[38,35,54,50,59]⟩,.string ⟨#[38,35,57,54,59]⟩]) (.int .i64 (k:Int))).run prog w=.ok (.string (bs (kE.getD k []))) w
 |0,_,_=>by kernel_rfl
 |1,_,_=>by kernel_rfl
 |2,_,_=>by kernel_rfl
 |3,_,_=>by kernel_rfl
 |4,_,_=>by kernel_rfl
 |5,_,_=>by kernel_rfl
 |k+6,hk,_=>by omega
theorem AS(s:Bytes)(w:World):bN prog 60 #[.string (bs s)] w (.bool (lB s)):=by
 obtain⟨b,hb⟩:=az (bs s);have HP:=h_ (fun(t:Bytes) (W:World)=>(show bV prog 57 #[.string b,.string (bs t)] W (.bool (Lib.hasPrefix s t))from by rw[hb];exact oO s t W))
 have OS:=h_ (fun(k:Nat) (hk:k<6) (h:Lib.hasPrefix s (kE.getD k [])=true)=>(show lB s=true from kr.mpr ⟨kE.getD k [],by
  have:k=0∨k=1∨k=2∨k=3∨k=4∨k=5:=by omega
  rcases this with rfl|rfl|rfl|rfl|rfl|rfl <;>simp[kE],h⟩))
 have HWF:=h_ (fun(h:∀ j,j<6->Lib.hasPrefix s (kE.getD j [])=false)=>(show lB s=false from Oi.mpr fun t ht=>by
  unfold kE at ht h;simp only[aj,bl,or_false]at ht;rcases ht with rfl|rfl|rfl|rfl|rfl|rfl
  ·simpa using h 0 (by decide)
  ·simpa using h 1 (by decide)
  ·simpa using h 2 (by decide)
  ·simpa using h 3 (by decide)
  ·simpa using h 4 (by decide)
  simpa using h 5 (by decide)))
 rw[<-hb];clear hb;go_enter func60,ntmps60
 go_wp2_with fail
 go_loopw [2,4,6] (fun _ _ iv wr=>∃ k:Nat,k<=6∧iv=.int .i64 k∧Hid (∀j,j<k->Lib.hasPrefix s (kE.getD j [])=false)∧Hid (Below w.heap.size w wr)) (fun _ _ i _=>6-(intOf i).toNat)
 case atStart=>exact⟨0,by omega,by simp,h_ (fun j h=>absurd h (cg _)),h_ (by first|exact Below.refl _ _|exact(Below.refl _ _).alloc (af _) _)⟩
 case round =>
  obtain⟨k,hk,rfl,HF,BR⟩:=hrel;by_cases hlt:k<6
  ·have IX:=h_ (fun W=>Xt k hlt W)
   obtain⟨q,hq⟩:=az (Lib.hasPrefix s (kE.getD k []));have HK:=h_ (fun W=>HP.out (kE.getD k []) W);rw[<-hq]at HK;cases q with
   |true =>
    have HR:=h_ (OS.out k hlt hq.symm);clear hq HF HP OS HWF
    go_wp2_with (first
     |(refine cO rfl 122 _ _ rfl _ _ _ rfl rfl IX.out ?_)
     |(go_at_call 57;refine(HK.out _).mono ?_;rintro e w2 ⟨rfl,hw⟩;subst w2)
     |fail)
    go_ret;exact⟨by rw[HR.out];rfl,BR.out⟩
   |false =>
    have HN:=h_ (show ∀j,j<k+1->Lib.hasPrefix s (kE.getD j [])=false from fun j hj=>by
     by_cases h:j=k
     ·subst h;exact hq.symm
     exact HF.out j (by omega))
    clear hq HF HP OS HWF
    go_wp2_with (first
     |(refine cO rfl 122 _ _ rfl _ _ _ rfl rfl IX.out ?_)
     |(go_at_call 57;refine(HK.out _).mono ?_;rintro e w2 ⟨rfl,hw⟩;subst w2)
     |fail)
    go_roundw
    case rel=>exact⟨k+1,by omega,by go_num,HN,BR⟩
    case measure=>simp[intOf];omega
  obtain rfl:k=6:=by omega
  have HR:=h_ (HWF.out HF.out);clear HP OS HWF HF
  go_wp2_with fail
  go_ret;exact⟨by rw[HR.out];rfl,BR.out⟩
theorem Eo:∀ {s:Bytes},jB s=true->∀ k,k<s.length->WK (s.drop k)=true
 | [],_,k,h=>absurd h (cg _)
 |x::r,h,k,hk=>by
  rw[jB,bD]at h;cases k with
  |zero=>exact h.1
  |succ k =>
   rw[ag]at hk;exact Eo h.2 k (by omega)
theorem a1a{x:UInt8}{r:Bytes}(h:WK (x::r)=true):(32<=b2 x∧b2 x<=126)∧((b2 x=38∧lB (x::r)=true)∨(b2 x≠38∧lI (b2 x)=[])):=by
 unfold WK at h;dsimp only at h;rw[bD,jI,jI,decide_eq_false_iff_not,gN]at h;obtain⟨h1,h2,h3⟩:=h;refine⟨by omega,?_⟩;by_cases Yq:b2 x=38
 ·left
  rw[decide_eq_true Yq,kU,Bool.not_eq_false']at h2;exact⟨Yq,h2⟩
 right
 rw[decide_eq_true Yq,kU]at h3;exact⟨Yq,by simpa using h3⟩
theorem Nc(s:Bytes)(w:World)(hl:s.length<=1000000000000)(hp:jB s=true):bN prog 26 #[.string (bs s)] w (.bool true):=by
 obtain⟨b,hb⟩:=az (bs s);have HB:=h_ hb;obtain⟨N,hN⟩:=az (s.length);have hsz:b.size=N:=by rw[hb,aM,hN]
 have OM:=h_ (Eo hp);have HN:=h_ hN;have p7:N<=1000000000000:=by omega
 rw[<-hb];clear hb hN hp hl;go_enter func26,ntmps26
 go_wp2_with fail
 go_loopw [2,3,4,7] (fun _ _ _ iv wr=>∃ k:Nat,k<=N∧iv=.int .i64 k∧Hid (Below w.heap.size w wr)) (fun _ _ _ i _=>N-(intOf i).toNat)
 case atStart=>exact⟨0,by omega,by simp,h_ (Below.refl _ _)⟩
 case round =>
  obtain⟨k,hk,rfl,BR⟩:=hrel;by_cases hlt:k<N
  ·have hkl:k<s.length:=by have:=HN.out;omega
   have hkb:k<b.size:=by omega
   have hx:=cJ HB.out hkb hkl;have hok:=OM.out k hkl;have hdr:s.drop k=s[k]::s.drop (k+1):=aq hkl;rw[hdr]at hok;obtain⟨hr,hc⟩:=a1a hok;rw[<-hdr]at hc;obtain⟨tb,htb⟩:=az (bs (s.drop k))
   have hxt:b.extract k N=tb:=by
    rw[HB.out,htb,bX,HN.out,aP (by rw[ah];omega)]
   have hwr:=fun W=>AS (s.drop k) W;rw[<-htb]at hwr;obtain⟨z,hz⟩:=az (b2 s[k]);rw[<-hz]at hx hr hc;have z1:¬ z<32:=by omega
   have z2:¬ 126<z:=by omega
   have z3:decide (z<32)=false:=decide_eq_false z1;have z4:decide (126<z)=false:=decide_eq_false z2;rcases hc with⟨hc,hw⟩|⟨hc,he⟩
   ·rw[hw]at hwr
    have HWR:=h_ hwr;rw[hc]at hx;clear hwr hz hr hok hdr htb hw hc z1 z2 z3 z4
    go_wp2_with (first
     |(go_at_call 60;refine(HWR.out _).mono ?_;rintro e w2 ⟨rfl,hb2⟩;have B2:=h_ (BR.out.trans (hb2.mono BR.out.size));clear hb2)
     |fail)
    go_roundw
    case rel=>exact⟨k+1,by omega,by go_num,B2⟩
    case measure=>simp[intOf];omega
   have z5:(z==38)=false:=by simpa using hc
   have hes:=fun W=>tP z W;rw[he]at hes;have HES:=h_ hes;have e1:(bs []).toList.isEmpty=true:=by rw[ay];rfl
   have e2:(bs []).toList=[]:=by rw[ay]
   clear hwr hz hr hok hdr htb hes he
   go_wp2_with (first
    |(go_at_call 53;refine(HES.out _).mono ?_;rintro e w2 ⟨rfl,hw⟩;subst w2)
    |fail)
   go_roundw
   case rel=>exact⟨k+1,by omega,by go_num,BR⟩
   case measure=>simp[intOf];omega
  obtain rfl:k=N:=by omega
  go_wp2_with fail
  go_ret;exact⟨rfl,BR.out⟩
theorem EQ(l:Bytes)(w:World)(hl:(eX l).length<=900000000):bN prog 27 #[.string (bs (eX l))] w (.bool true):=by
 obtain⟨b,hb⟩:=az (bs (eX l))
 have hll:l.length<=(eX l).length:=by
  clear hl hb
  induction l with
  |nil=>exact af _
  |cons x r ih =>
   have e:eX (x::r)=jm x++eX r:=rfl
   have h1:1<=(jm x).length:=by
    unfold jm
    split
    ·exact af _
    next h=>exact Jb fun h0=>h (ak h0)
   rw[e,ae,ag];omega
 obtain⟨t,ht⟩:=az (bs l)
 have HD:=h_ (show ∀W,bN prog 46 #[.string b] W (.string t)from fun W=>by
  have h:=tO (eX l) W hl;rw[Ds,<-hb,show S l=.string t by rw[ht]]at h;exact h)
 have HE:=h_ (show ∀W,bN prog 21 #[.string t] W (.string b)from fun W=>by
  have h:=vY l W (by omega);rw[<-ht,show S (eX l)=.string b by rw[hb]]at h;exact h)
 rw[<-hb];clear hb ht hl hll;go_enter func27,ntmps27
 go_wp2_with (first
  |(go_at_call 46;refine(HD.out _).mono ?_;rintro e w2 ⟨rfl,hb⟩;have B2:=h_ hb;clear hb)
  |(go_at_call 21;refine(HE.out _).mono ?_;rintro e w3 ⟨rfl,hb⟩;have B3:=h_ (B2.out.trans (hb.mono B2.out.size));clear hb)
  |fail)
 go_ret;exact⟨by simp,B3.out⟩

theorem Ie(u:Url)(pu pv:Value)(w:World)(h8:u.host.six.length=8)(h:Sl w.heap.size w pu (u.path.map S))(k:Sl w.heap.size w pv (u.path.map S)) :
  bN prog 47 #[.agg (ai pu u),.agg (ai pv u)] w (.bool true):=by
 obtain⟨W,hW,hb,k1,k2⟩:=a54 w pu pv u u;have HW:=h_ hW;have BW:=h_ hb;have HSU:=h_ (show Sl W.heap.size W pu (u.path.map S)from(h.below hb).more hb.size);have HSV:=h_ (show Sl W.heap.size W pv (u.path.map S)from(k.below hb).more hb.size);have H8:=h_ h8;have UA:=h_ (uF pu u h8);have UB:=h_ (uF pv u h8);obtain⟨YX,GN⟩:=az (bs u.aH);obtain⟨YY,GQ⟩:=az (bs u.usr);obtain⟨YW,GM⟩:=az (bs u.fp);obtain⟨Ah,qP⟩:=az (u.bq);obtain⟨TW,Bf⟩:=az (u.port);obtain⟨YV,GL⟩:=az (u.opq);obtain⟨TS,Bc⟩:=az (bs u.flat);obtain⟨TV,Be⟩:=az (u.bS);obtain⟨x_q,a0R⟩:=az (bs u.q);obtain⟨TU,Bd⟩:=az (u.bZ);obtain⟨x_f,a0Q⟩:=az (bs u.f)
 have UJ:=h_ (fun(V:World) (hb2:Below W.heap.size W V)=>(show V.cell? ⟨w.heap.size,0,none⟩=some (.string YX)∧V.cell? ⟨w.heap.size+1,0,none⟩=some (.string YX)∧V.cell? ⟨w.heap.size,1,none⟩=some (.string YY)∧V.cell? ⟨w.heap.size+1,1,none⟩=some (.string YY)∧V.cell? ⟨w.heap.size,2,none⟩=some (.string YW)∧V.cell? ⟨w.heap.size+1,2,none⟩=some (.string YW)∧V.cell? ⟨w.heap.size,14,none⟩=some (.bool Ah)∧V.cell? ⟨w.heap.size+1,14,none⟩=some (.bool Ah)∧V.cell? ⟨w.heap.size,15,none⟩=some (.int .i64 TW)∧V.cell? ⟨w.heap.size+1,15,none⟩=some (.int .i64 TW)∧V.cell? ⟨w.heap.size,16,none⟩=some (.bool YV)∧V.cell? ⟨w.heap.size+1,16,none⟩=some (.bool YV)∧V.cell? ⟨w.heap.size,17,none⟩=some (.string TS)∧V.cell? ⟨w.heap.size+1,17,none⟩=some (.string TS)∧V.cell? ⟨w.heap.size,19,none⟩=some (.bool TV)∧V.cell? ⟨w.heap.size+1,19,none⟩=some (.bool TV)∧V.cell? ⟨w.heap.size,20,none⟩=some (.string x_q)∧V.cell? ⟨w.heap.size+1,20,none⟩=some (.string x_q)∧V.cell? ⟨w.heap.size,21,none⟩=some (.bool TU)∧V.cell? ⟨w.heap.size+1,21,none⟩=some (.bool TU)∧V.cell? ⟨w.heap.size,22,none⟩=some (.string x_f)∧V.cell? ⟨w.heap.size+1,22,none⟩=some (.string x_f)from
  ⟨by rw[GN];exact(k1.keep hb2).aF UA.out.aH,by rw[GN];exact(k2.keep hb2).aF UB.out.aH,by rw[GQ];exact(k1.keep hb2).aF UA.out.usr,by rw[GQ];exact(k2.keep hb2).aF UB.out.usr,by rw[GM];exact(k1.keep hb2).aF UA.out.fp,by rw[GM];exact(k2.keep hb2).aF UB.out.fp,by rw[qP];exact(k1.keep hb2).aF UA.out.bq,by rw[qP];exact(k2.keep hb2).aF UB.out.bq,by rw[Bf];exact(k1.keep hb2).aF UA.out.port,by rw[Bf];exact(k2.keep hb2).aF UB.out.port,by rw[GL];exact(k1.keep hb2).aF UA.out.opq,by rw[GL];exact(k2.keep hb2).aF UB.out.opq,by rw[Bc];exact(k1.keep hb2).aF UA.out.flat,by rw[Bc];exact(k2.keep hb2).aF UB.out.flat,by rw[Be];exact(k1.keep hb2).aF UA.out.bS,by rw[Be];exact(k2.keep hb2).aF UB.out.bS,by rw[a0R];exact(k1.keep hb2).aF UA.out.q,by rw[a0R];exact(k2.keep hb2).aF UB.out.q,by rw[Bd];exact(k1.keep hb2).aF UA.out.bZ,by rw[Bd];exact(k2.keep hb2).aF UB.out.bZ,by rw[a0Q];exact(k1.keep hb2).aF UA.out.f,by rw[a0Q];exact(k2.keep hb2).aF UB.out.f⟩))
 have dH:=h_ (fun(V:World) (hb2:Below W.heap.size W V)=>(show V.rangeAt w.heap.size 3 (aZ u.host)∧V.rangeAt (w.heap.size+1) 3 (aZ u.host)from
  ⟨fun j x hj=>(k1.keep hb2).aF (UA.out.host j x hj),fun j x hj=>(k2.keep hb2).aF (UB.out.host j x hj)⟩))
 have c1:=k1.aF UA.out.path;have c2:=k2.aF UB.out.path;clear hW k1 k2 hb h k h8 GN GQ GM qP Bf GL Bc Be a0R Bd a0Q;go_enter func47,ntmps47
 go_upto_region 1 with fail
 rw[HW.out];refine wp_region_lit ?_;simp only[List.append_eq,bd,bJ]
 go_wp2_with (first
  |(go_at_call 15;refine(xC u.path u.path pu pv _ _ _ HSU.out HSV.out).mono ?_;rintro e w2 ⟨rfl,hb⟩;rw[show decide (u.path=u.path)=true from decide_eq_true rfl];have B2:=h_ hb;clear c1 c2;obtain⟨f0,f1,f2,f3,f4,f5,f6,f7,f8,f9,f10,f11,f12,f13,f14,f15,f16,f17,f18,f19,f20,f21⟩:=UJ.out w2 hb;clear hb)
  |((with_reducible refine ig ?_);refine Sf (by rfl) (.tmp 32) rfl w.heap.size 3 u.host H8.out rfl (dH.out w2 B2.out).1 ?_)
  |((with_reducible refine ig ?_);refine Sf (by rfl) (.tmp 34) rfl (w.heap.size+1) 3 u.host H8.out rfl (dH.out w2 B2.out).2 ?_)
  |((with_reducible refine ig ?_);refine a8L (by rfl) (.tmp 33) (.tmp 35) rfl u.host u.host H8.out H8.out true ⟨fun _=>rfl,fun _=>rfl⟩ rfl rfl ?_)
  |fail)
 go_ret;exact⟨rfl,BW.out.trans (B2.out.mono BW.out.size)⟩
end Go.Proofs.YtmndlfglgcioeaaGreatDoor
