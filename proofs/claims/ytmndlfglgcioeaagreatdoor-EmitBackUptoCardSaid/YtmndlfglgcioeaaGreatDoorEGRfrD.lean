/- Joined texts. -/
import Derived.Deep.CutBlock
import Derived.Test.YtmndlfglgcioeaaGreatDoorEGWlkY
import Derived.Test.YtmndlfglgcioeaaGreatDoorEGEntD
set_option maxHeartbeats 40000000
namespace Go.Proofs.YtmndlfglgcioeaaGreatDoor
open Tryz
open Go.RowKit
set_option maxRecDepth 10000
def cW(r:Jd):Array Value:=#[S r.delay,.bool r.has,S r.url]
abbrev R0:Jd:=⟨[],false,[]⟩
theorem Bt:(prog.info? 63).map (·.size)=some 3:=by kernel_rfl
theorem OY(w:World):(Instr.alloc 63 true (Value.tuple #[])).run prog w=.ok (.pointer (some ⟨w.heap.size,0,none⟩)) (w.alloc (.cells (cW R0) 63)):=by kernel_rfl
theorem YN(r:Jd):∀ v∈(cW r).toList,v.oneCell'=true:=by
 intro v hv;simp only[cW,aj,bl,or_false]at hv;rcases hv with rfl|rfl|rfl <;>rfl
def rfE:Option Jd->Ending
 |none=>.returned (.tuple #[.agg (cW R0),.bool false])
 |some r=>.returned (.tuple #[.agg (cW r),.bool true])
section
variable {ops:Array Oper} {rest:List Oper} {o:Oper} {a:Act} {w:World} {Q:Exit->Act->World->Prop}
theorem SY(hgd:o.guard=none)(x y:Operand)(ho:o.op=.store 63 x y)(w0:World)(b:Nat)(r0 r:Jd)(i:OB w0 b 63 (cW r0) w)(hx:a.eval x=.pointer (some ⟨b,0,none⟩))(hy:a.eval y=.agg (cW r))
  (K:∀ w',OB w0 b 63 (cW r) w'->wpList prog ops Q rest (a.put o.dst undef) w'):wpList prog ops Q (o::rest) a w :=
 Nd hgd 63 x y ho w0 b 63 (cW r0) i 0 (cW r).toList hx hy (bR rfl) Bt (YN r) (cW r) rfl K
theorem newR{W:World}(hgd:o.guard=none)(x y:Operand)(ho:o.op=.store 63 x y)(r:Jd)(hW:W=w.alloc (.cells (cW R0) 63))(hx:a.eval x=.pointer (some ⟨w.heap.size,0,none⟩))(hy:a.eval y=.agg (cW r))
  (k:∀ w',OB w w.heap.size 63 (cW r) w'->wpList prog ops Q rest (a.put o.dst undef) w'):wpList prog ops Q (o::rest) a W :=
 mg hgd _ x y ho (cW r) (cW R0) Bt rfl (all_oneCell_toArray (YN r)) hW hx hy fun w' c b=>k w' (OB.of c (af _) b)
theorem a0h(hg:o.guard=none)(x:Operand)(ho:o.op=.load 63 x)(w0:World)(b:Nat)(r:Jd)(i:OB w0 b 63 (cW r) w)(hx:a.eval x=.pointer (some ⟨b,0,none⟩))(K:wpList prog ops Q rest (a.put o.dst (.agg (cW r))) w):wpList prog ops Q (o::rest) a w :=
 DH hg _ x ho w0 b 63 (cW r) i _ hx underlying63 rfl Bt K
end
theorem Tb{tmps:Array Value}{w w2:World}{b:Nat}{r:Jd}{q:Bool}(h2:tmps.getD 2 undef=.pointer (some ⟨b,0,none⟩))(h3:tmps.getD 3 undef=.bool q)(i:OB w b 63 (cW r) w2){R:Option Jd}(hR:rfE R=.returned (.tuple #[.agg (cW r),.bool q])) :
  bodyPost prog f31 (fun e w'=>e=rfE R∧Below w.heap.size w w') Exit.ret {tmps:=tmps,defers:=[]} w2:=by
 have h2':tmps[2]?.getD undef=.pointer (some ⟨b,0,none⟩):=by simpa using h2
 have h3':tmps[3]?.getD undef=.bool q:=by simpa using h3
 have hl:=i.load (P:=prog) 63 _ underlying63 rfl Bt;refine bodyPost_ret (v:=.tuple #[.agg (cW r),.bool q]) ?_ rfl ⟨hR.symm,i.bL⟩;simp[results,results31,asAddr,h2',h3',hl]
theorem Iz(p:UInt8->Bool):∀ (l:Bytes) (k:Nat) (_:k<(l.takeWhile p).length) (h2:k<l.length),p l[k]=true
 | [],k,h,h2=>absurd h2 (cg _)
 |x::r,k,h,h2=>by
  cases hx:p x with
  |false=>rw[aX (by rw[hx];simp)]at h;exact absurd h (cg _)
  |true =>
   rw[aY hx]at h;cases k with
   |zero=>exact hx
   |succ k=>exact Iz p r k (by simpa using h) (by simpa using h2)
theorem BT(p:UInt8->Bool):∀ (l:Bytes) (h:(l.takeWhile p).length<l.length),p l[(l.takeWhile p).length]=false
 | [],h=>absurd h (cg _)
 |x::r,h=>by
  cases hx:p x with
  |false =>
   have e:(x::r).takeWhile p=[]:=aX (by rw[hx];simp);simp only[e,aN,jc,hx]
  |true =>
   have e:(x::r).takeWhile p=x::r.takeWhile p:=aY hx;have h2:(r.takeWhile p).length<r.length:=by rw[e]at h;simpa using h
   have ih:=BT p r h2;simp only[e,ag,b0Q];exact ih
theorem xQ(p:UInt8->Bool):∀ l:Bytes,l.drop (l.takeWhile p).length=l.dropWhile p
 | []=>rfl
 |c::r=>by
  cases h:p c with
  |true=>rw[aY h,aU h,ag,Fo,xQ p r]
  |false=>rw[aX (by rw[h];simp),bn (by rw[h];simp)];rfl
theorem E4(p:UInt8->Bool):∀ l:Bytes,l.take (l.takeWhile p).length=l.takeWhile p
 | []=>rfl
 |c::r=>by
  cases h:p c with
  |true=>rw[aY h,ag,cY,E4 p r]
  |false=>rw[aX (by rw[h];simp)];rfl
theorem J6(x:UInt8):kY x=true ↔ 48<=b2 x∧b2 x<=57:=by unfold kY;rw[decide_eq_true_eq]
theorem Qc(x:UInt8)(W:World)(h:kY x=true):∃ d:Int,0<=d∧iz prog 62 #[.int .u8 (b2 x),.int .i64 10] W (.int .i64 d):=by
 have hc:=(J6 x).1 h;have hd:=dB (b2 x) 10 W ⟨(js x).1,(js x).2⟩ (by decide);rw[u3.1 hc]at hd;exact⟨b2 x-48,by omega,hd⟩
theorem Qd(x:UInt8)(W:World)(h:kY x=false):iz prog 62 #[.int .u8 (b2 x),.int .i64 10] W (.int .i64 (-1)):=by
 have hc:¬ (48<=b2 x∧b2 x<=57):=fun hh=>by rw[(J6 x).2 hh]at h;cases h
 have hd:=dB (b2 x) 10 W ⟨(js x).1,(js x).2⟩ (by decide);rw[u3.2 hc]at hd;exact hd
theorem a5Y(u:Bytes)(w:World):bN prog 63 #[.string (bs u),.string (bs [48])] w (S (u.dropWhile z48)):=by
 have h116:(prog.info? (laysTL_ren.t 116)).map (fun i=>(i.zero,i.size))=some (some (.agg (Array.replicate 256 (.bool false))),256):=by kernel_rfl
 have h:=Any.strings_TrimLeft_laid laysTL h116 (bs u) (bs [48]) w (by decide) (ascii_of_all (by decide));rw[show(bs u).data.toList=u from dR u,show(bs [48]).data.toList=[48]from dR _]at h;refine h.mono ?_;rintro e w' ⟨rfl,hb⟩;refine⟨?_,hb⟩
 have e1:Lib.trimLeftS u [48]=u.dropWhile z48:=by
  unfold Lib.trimLeftS
  congr 1
  funext x
  unfold z48;by_cases hx:x=48 <;>simp[hx]
 rw[e1];rfl
theorem VH(l:Bytes):Lib.hasPrefix l [46]=decide (l.head? = some 46):=by
 cases l with
 |nil=>rfl
 |cons x r =>
  show((46==x)&&true)=_;rw[jq,k9];by_cases h:x=46
  ·subst h;rfl
  rw[decide_eq_false (by simpa using h)];simp only[beq_eq_false_iff_ne];exact fun e=>h e.symm

def Tj(y:Bytes):Bool:=match y with
 | []=>false
 |c::_=>decide (c=59)||decide (c=44)
theorem Xc{y:Bytes}(h:Tj y=true):∃ c r,y=c::r∧(c=59∨c=44)∧xH y=bG r:=by
 cases y with
 |nil=>cases h
 |cons c r =>
  have h2:c=59∨c=44:=by simpa[Tj]using h
  refine⟨c,r,rfl,h2,?_⟩;show(if c=59∨c=44 then bG r else c::r)=_;rw[if_pos h2]
theorem a1y{y:Bytes}(h:Tj y=false):xH y=y:=by
 cases y with
 |nil=>rfl
 |cons c r =>
  have h2:¬ (c=59∨c=44):=by simpa[Tj]using h
  show(if c=59∨c=44 then bG r else c::r)=_;rw[if_neg h2]
theorem qY(s:Bytes)(w:World)(hL:s.length<=1000000)(hE:Env w):Calls prog 31 #[.string (bs s)] w fun e w'=>e=rfE (xu s)∧Below w.heap.size w w':=by
 obtain⟨sb,hsb⟩:=az (bs s);obtain⟨z,hz⟩:=az (bG s);have hzl:z.length<=1000000:=by rw[hz];exact ap (show(bG s).length<=s.length from(cD _).length_le) hL
 obtain⟨zb,hzb⟩:=az (bs z);have hb1:=fun W=>ko s W (by omega);rw[<-hsb,<-hz,show S z=.string zb by rw[hzb]]at hb1;have HB1:=h_ hb1;obtain⟨R,hR⟩:=az (xu s);have HR:=h_ (show R=YO z by rw[hR,hz];rfl);rw[<-hsb,<-hR];have HE:=h_ hE;obtain⟨N,hN⟩:=az (z.length);have hsz:zb.size=N:=by rw[hzb,aM,hN]
 have HN:=h_ hN;have X6:=h_ hzb;rw[<-hN]at hzl;obtain⟨D,hD⟩:=az ((z.takeWhile kY).length);have hDN:D<=N:=by rw[hD,hN];exact(yJ _).length_le
 have HD:=h_ hD;clear hb1 hz hR hE hN hzb hD hsb hL;go_enter func31,ntmps31
 go_upto_region 1 with(first
  |(refine aS rfl 63 rfl _ _ (OY _) ?_)
  |fail)
 have h4:=OB.fresh w 63 (cW R0);obtain⟨w1,hw1⟩:=az (w.alloc (.cells (cW R0) 63));rw[<-hw1]at h4 ⊢;have H4:=h_ h4;clear h4 hw1
 go_upto_block 0 with(first
  |(go_at_call 61;refine(HB1.out _).mono ?_;rintro e w2 ⟨rfl,hw⟩;subst w2)
  |fail)
 clear HB1
 go_cut [4]from 8 to 20 (fun kv wx=>kv=.int .i64 (D:Int)∧wx=w1)
 case first =>
  go_wp2_with fail
  go_loopw [4] (fun iv wr=>∃ k:Nat,k<=D∧iv=.int .i64 k∧wr=w1) (fun i _=>D-(intOf i).toNat)
  case atStart=>exact⟨0,aK _,rfl,rfl⟩
  case round =>
   obtain⟨k,hk,rfl,hw⟩:=hrel;subst wr;by_cases hlt:k<D
   ·have hkl:k<z.length:=by have:=HN.out;omega
    have hkb:k<zb.size:=by omega
    have hx:=cJ X6.out hkb hkl;obtain⟨d,hd0,hdg⟩:=Qc z[k] w1 (Iz kY z k (by rw[<-HD.out];exact hlt) hkl);obtain⟨c,hc⟩:=az (b2 z[k]);rw[<-hc]at hx hdg;have OE:=h_ hdg;clear hdg hc
    go_wp2_with (first
     |(go_at_call 62;refine(OE.out).mono ?_;rintro e w3 ⟨rfl,hw⟩;subst w3)
     |fail)
    go_roundw
    case rel=>exact⟨k+1,by omega,by go_num,by trivial⟩
    case measure=>simp[intOf];omega
   obtain rfl:k=D:=by omega
   by_cases hkN:k<N
   ·have hkl:k<z.length:=by have:=HN.out;omega
    have hkb:k<zb.size:=by omega
    have hx:=cJ X6.out hkb hkl
    have hst:kY z[k]=false:=by
     have h:=BT kY z (by rw[<-HD.out];exact hkl);simp only[<-HD.out]at h;exact h
    have hdg:=Qd z[k] w1 hst;obtain⟨c,hc⟩:=az (b2 z[k]);rw[<-hc]at hx hdg;have OE:=h_ hdg;clear hdg hc hst
    go_wp2_with (first
     |(go_at_call 62;refine(OE.out).mono ?_;rintro e w3 ⟨rfl,hw⟩;subst w3)
     |fail)
    go_meet
    case rel=>exact⟨rfl,rfl⟩
   go_wp2_with fail
   go_meet
   case rel=>exact⟨rfl,rfl⟩
 case rest =>
  obtain⟨rfl,rfl⟩:=hcut;obtain⟨u,hu⟩:=az (z.takeWhile kY);have huD:D=u.length:=by rw[hu];exact HD.out
  have HDR:=h_ (show z.drop D=z.dropWhile kY by rw[HD.out];exact xQ kY z);obtain⟨bad,hbad⟩:∃ b:Bool,b=decide (D=0∧z.head? ≠ some 46):=⟨_,rfl⟩;have HBAD:=h_ hbad;have HUD:=h_ huD;have HU:=h_ hu;clear hbad huD hu
  go_upto_region 5 with fail
  go_cut [27]from 21 to 26 (fun q wx=>q=.bool bad∧wx=wc)
  case first =>
   by_cases h0:D=0
   ·have hp:=fun W=>oO z [46] W
    rw[<-X6.out,VH]at hp;obtain⟨q,hq⟩:=az (decide (z.head? = some 46));rw[<-hq]at hp;have HP:=h_ (show ∀W,bV prog 57 #[.string zb,.string ⟨#[46]⟩] W (.bool q)from hp);have HQ:=h_ (show bad=!q by rw[HBAD.out,hq,<-decide_not,decide_eq_decide];exact⟨fun h=>h.2,fun h=>⟨h0,h⟩⟩);have qD:(((D:Nat):Int)==0)=true:=by simp[h0]
    clear hp hq h0
    go_wp2_with (first
     |(go_at_call 57;refine(HP.out _).mono ?_;rintro e w3 ⟨rfl,hw⟩;subst w3)
     |fail)
    go_meet
    case rel=>exact⟨by rw[HQ.out],rfl⟩
   have HQ:=h_ (show bad=false by rw[HBAD.out,decide_eq_false_iff_not];exact fun h=>h0 h.1);have qD:(((D:Nat):Int)==0)=false:=by simp[h0]
   have nD:¬ ((D:Nat):Int)=0:=by omega
   clear h0
   go_wp2_with fail
   go_meet
   case rel=>exact⟨by rw[HQ.out],rfl⟩
  case rest =>
   obtain⟨rfl,rfl⟩:=hcut;cases bad with
   |true =>
    have kC:=h_ (show R=none by
     have hb:=HBAD.out;rw[eq_comm,decide_eq_true_eq]at hb;rw[HR.out];unfold YO;rw[if_pos ⟨by rw[<-HU.out];exact ak (by rw[<-HUD.out];exact hb.1),hb.2⟩])
    go_wp2_with (first
     |(refine SY rfl (.tmp 2) (.tmp 28) rfl w w.heap.size R0 R0 H4.out rfl rfl ?_;intro w5 i5;have I5:=h_ i5;clear i5)
     |fail)
    exact Tb rfl rfl I5.out (by rw[kC.out];rfl)
   |false =>
    have HR2:=h_ (show R=W5 (jO u) ((z.drop D).dropWhile pd) by
     have hb:=HBAD.out;rw[eq_comm,decide_eq_false_iff_not]at hb;rw[HR.out];unfold YO;rw[if_neg (fun h=>hb ⟨by rw[HUD.out,HU.out,h.1];rfl,h.2⟩),<-HU.out,HDR.out])
    clear HR HBAD;obtain⟨tb,htb⟩:=az (bs u);have hex:zb.extract 0 D=tb:=by rw[X6.out,htb,bX,HU.out,HD.out];simp[E4]
    obtain⟨dl,hdl⟩:=az (u.dropWhile z48);have htl:=fun W=>a5Y u W;rw[<-htb,<-hdl]at htl;have Ap:=h_ (show ∀W,bN prog 63 #[.string tb,.string ⟨#[48]⟩] W (S dl)from htl);have OF:=h_ (show jO u=if dl=[]then [48]else dl by rw[hdl];rfl);clear htb hdl htl
    go_upto_region 8 with(first
     |(go_at_call 63;refine(Ap.out _).mono ?_;rintro e w2 ⟨rfl,hb2⟩;have HB2:=h_ hb2;clear hb2)
     |(refine aS rfl 63 rfl _ _ (OY _) ?_)
     |(refine newR rfl (.tmp 5) (.tmp 33) rfl ⟨dl,false,[]⟩ rfl rfl rfl ?_;intro w3 i3;have I3:=h_ i3;clear i3)
     |fail)
    have H42:=h_ (H4.out.below HB2.out);obtain⟨b5,hb5⟩:=az (w2.heap.size);rw[<-hb5]at I3 ⊢;have gH:=h_ hb5;obtain⟨db,hdb⟩:=az (bs dl);have c0:w3.cell? ⟨b5,0,none⟩=some (.string db):=by rw[hdb];exact I3.out.aF rfl
    have HDB:=h_ hdb;clear hb5 hdb hex Ap HB2 H4
    go_upto_if 36 with fail
    obtain⟨em,hem⟩:∃ b:Bool,b=db.toList.isEmpty:=⟨_,rfl⟩;rw[<-hem];have HEM:=h_ (show em=decide (dl=[]) by rw[hem,HDB.out,ay];cases dl <;>rfl);clear hem
    go_cut []from 37 to 37 (fun wx=>Hid (OB w2 b5 63 (cW ⟨jO u,false,[]⟩) wx))
    case first =>
     clear c0;cases em with
     |true =>
      have HF:=h_ (show jO u=[48] by rw[OF.out,if_pos (of_decide_eq_true HEM.out.symm)])
      go_wp2_with (first
       |(refine oX rfl 9 (.tmp 37) (.const (.string ⟨#[48]⟩)) rfl w2 b5 63 (cW ⟨dl,false,[]⟩) I3.out 0 (S [48]) rfl rfl (by show 0<3;decide) bU.1 rfl (cW ⟨[48],false,[]⟩) rfl ?_;intro w4 i4 _ _;have I4:=h_ i4;clear i4)
       |fail)
      go_meet
      case rel=>exact h_ (by rw[HF.out];exact I4.out)
     |false =>
      have HF:=h_ (show jO u=dl by rw[OF.out,if_neg (of_decide_eq_false HEM.out.symm)])
      go_wp2_with fail
      go_meet
      case rel=>exact h_ (by rw[HF.out];exact I3.out)
    case rest =>
     obtain⟨dd,hdd⟩:=az (jO u);rw[<-hdd]at HR2 hcut;obtain⟨v,hv⟩:=az (z.drop D);have HV:=h_ hv;rw[<-hv]at HR2;obtain⟨E,hE⟩:=az (D+(v.takeWhile pd).length)
     have hEN:E<=N:=by
      have h1:(v.takeWhile pd).length<=v.length:=(yJ _).length_le;have h2:v.length=N-D:=by rw[hv,ah,HN.out]
      omega
     have hDE:D<=E:=by omega
     have HEE:=h_ hE;have I5:=hcut;clear hdd hv hE hcut c0 HDB OF I3 HUD HU HDR
     go_upto_block 2 with fail
     go_cut [4]from 38 to 56 (fun kv wx=>kv=.int .i64 (E:Int)∧wx=wc)
     case first =>
      go_wp2_with fail
      go_loopw [4] (fun iv wr=>∃ k:Nat,D<=k∧k<=E∧iv=.int .i64 k∧wr=wc) (fun i _=>E-(intOf i).toNat)
      case atStart=>exact⟨D,af _,hDE,rfl,rfl⟩
      case round =>
       obtain⟨k,hDk,hk,rfl,hw⟩:=hrel;subst wr;have hvN:v.length=N-D:=by rw[HV.out,ah,HN.out]
       have hkv:∀ (h1:k<z.length) (h2:k-D<v.length),v[k-D]=z[k]:=fun h1 h2=>by
        simp only[HV.out,sA];simp only[show D+(k-D)=k from by omega]
       by_cases hlt:k<E
       ·have hkl:k<z.length:=by have:=HN.out;omega
        have hkb:k<zb.size:=by omega
        have hx:=cJ X6.out hkb hkl;have hvl:k-D<v.length:=by omega
        have hq:=Iz pd v (k-D) (by have:=HEE.out;omega) hvl;rw[hkv hkl hvl]at hq;by_cases h46:z[k]=46
        ·rw[h46,show b2 46=46 from rfl]at hx
         clear hq h46 hkv hvN hvl
         go_wp2_with fail
         go_roundw
         case rel=>exact⟨k+1,by omega,by omega,by go_num,by trivial⟩
         case measure=>simp[intOf];omega
        have hd:kY z[k]=true:=by
         unfold pd at hq;rw[decide_eq_false h46]at hq;exact hq
        obtain⟨d,hd0,hdg⟩:=Qc z[k] wc hd;have q46:(b2 z[k]==46)=false:=by simp;exact fun e=>h46 (fB e)
        obtain⟨c,hc⟩:=az (b2 z[k]);rw[<-hc]at hx hdg q46;have a95:¬ c=46:=by simpa using q46
        have OE:=h_ hdg;clear hdg hc hd hq h46 hkv hvN hvl
        go_wp2_with (first
         |(go_at_call 62;refine(OE.out).mono ?_;rintro e w4 ⟨rfl,hw⟩;subst w4)
         |fail)
        go_roundw
        case rel=>exact⟨k+1,by omega,by omega,by go_num,by trivial⟩
        case measure=>simp[intOf];omega
       obtain rfl:k=E:=by omega
       by_cases hkN:k<N
       ·have hkl:k<z.length:=by have:=HN.out;omega
        have hkb:k<zb.size:=by omega
        have hx:=cJ X6.out hkb hkl;have hvl:k-D<v.length:=by omega
        have hm:(v.takeWhile pd).length=k-D:=by have:=HEE.out;omega
        have hst:pd z[k]=false:=by
         have h:=BT pd v (by rw[hm];exact hvl);simp only[hm]at h;rw[hkv hkl hvl]at h;exact h
        have h2:=gN.1 (show(decide (z[k]=46)||kY z[k])=false from hst);have h46:¬ z[k]=46:=of_decide_eq_false h2.1;have hdg:=Qd z[k] wc h2.2;have q46:(b2 z[k]==46)=false:=by simp;exact fun e=>h46 (fB e)
        obtain⟨c,hc⟩:=az (b2 z[k]);rw[<-hc]at hx hdg q46;have a95:¬ c=46:=by simpa using q46
        have OE:=h_ hdg;clear hdg hc h2 hst h46 hkv hvN hvl hm
        go_wp2_with (first
         |(go_at_call 62;refine(OE.out).mono ?_;rintro e w4 ⟨rfl,hw⟩;subst w4)
         |fail)
        go_meet
        case rel=>exact⟨rfl,rfl⟩
       clear hkv hvN
       go_wp2_with fail
       go_meet
       case rel=>exact⟨rfl,rfl⟩
     case rest =>
      obtain⟨rfl,rfl⟩:=hcut;obtain⟨y,hy⟩:=az (v.dropWhile pd)
      have hyd:y=z.drop E:=by
       rw[hy,<-xQ pd v,HEE.out];generalize (v.takeWhile pd).length=m;rw[HV.out,rh]
      rw[<-hy]at HR2;obtain⟨yb,hyb⟩:=az (bs y);have hex:zb.extract E N=yb:=by rw[X6.out,hyb,hyd,bX,aP (by rw[ah,HN.out];exact af _)]
      have hyl:y.length<=1000000:=by rw[hyd,ah,<-HN.out];omega
      have X5:=h_ hyb;clear hy hyd hyb HV HEE X6;cases y with
      |nil =>
       have e1:yb.toList.isEmpty=true:=by rw[X5.out,ay];rfl
       have e2:yb.toList=[]:=by rw[X5.out,ay]
       have kC:=h_ (show R=some ⟨dd,false,[]⟩from HR2.out)
       go_wp2_with (first
        |(refine a0h rfl (.tmp 5) rfl w2 b5 ⟨dd,false,[]⟩ I5.out rfl ?_)
        |(refine SY rfl (.tmp 2) (.tmp 62) rfl w w.heap.size R0 ⟨dd,false,[]⟩ (H42.out.below I5.out.bL) rfl rfl ?_;intro w6 i6;have I6:=h_ i6;clear i6)
        |fail)
       exact Tb rfl rfl I6.out (by rw[kC.out];rfl)
      |cons c q =>
       have e1:yb.toList.isEmpty=false:=by rw[X5.out,ay];rfl
       have e2:¬ yb.toList=[]:=by rw[X5.out,ay];simp
       have y0:0<yb.size:=by rw[X5.out,aM];simp
       have hx:=cJ X5.out y0 (by simp);rw[show b2 (c::q)[0]=b2 c from rfl]at hx;obtain⟨bad,hbad⟩:∃ b:Bool,b=decide (jk c=false∧c≠59∧c≠44):=⟨_,rfl⟩;have HBAD:=h_ hbad;clear hbad
       go_upto_region 15 with fail
       clear hex
       go_cut [76]from 63 to 75 (fun q wx=>q=.bool bad∧wx=wc)
       case first =>
        have hbl:=fun W=>jN (b2 c) W;rw[show mA (b2 c)=jk c from rfl]at hbl;cases hq:jk c with
        |true =>
         rw[hq]at hbl;have HQ:=h_ (show bad=false by rw[HBAD.out,decide_eq_false_iff_not];exact fun h=>by rw[hq]at h;cases h.1);obtain⟨cz,hcz⟩:=az (b2 c);rw[<-hcz]at hx hbl;have mW:=h_ hbl;clear hbl hcz hq
         go_wp2_with (first
          |(go_at_call 37;refine(mW.out _).mono ?_;rintro e w4 ⟨rfl,hw⟩;subst w4)
          |fail)
         go_meet
         case rel=>exact⟨by rw[HQ.out],rfl⟩
        |false =>
         rw[hq]at hbl;by_cases lJ:c=59
         ·have HQ:=h_ (show bad=false by rw[HBAD.out,decide_eq_false_iff_not];exact fun h=>h.2.1 lJ)
          rw[lJ,show b2 59=59 from rfl]at hx hbl;have mW:=h_ hbl;clear hbl hq lJ
          go_wp2_with (first
           |(go_at_call 37;refine(mW.out _).mono ?_;rintro e w4 ⟨rfl,hw⟩;subst w4)
           |fail)
          go_meet
          case rel=>exact⟨by rw[HQ.out],rfl⟩
         by_cases AZ:c=44
         ·have HQ:=h_ (show bad=false by rw[HBAD.out,decide_eq_false_iff_not];exact fun h=>h.2.2 AZ)
          rw[AZ,show b2 44=44 from rfl]at hx hbl;have mW:=h_ hbl;clear hbl hq lJ AZ
          go_wp2_with (first
           |(go_at_call 37;refine(mW.out _).mono ?_;rintro e w4 ⟨rfl,hw⟩;subst w4)
           |fail)
          go_meet
          case rel=>exact⟨by rw[HQ.out],rfl⟩
         have HQ:=h_ (show bad=true by rw[HBAD.out,decide_eq_true_eq];exact⟨hq,lJ,AZ⟩);have Hv:(b2 c==59)=false:=by simp;exact fun e=>lJ (fB e)
         have q44:(b2 c==44)=false:=by simp;exact fun e=>AZ (fB e)
         obtain⟨cz,hcz⟩:=az (b2 c);rw[<-hcz]at hx hbl Hv q44;have a5Q:¬ cz=59:=by simpa using Hv
         have a5O:¬ cz=44:=by simpa using q44
         have n59:(cz != 59)=true:=by simpa using a5Q
         have n44:(cz != 44)=true:=by simpa using a5O
         have mW:=h_ hbl;clear hbl hcz hq lJ AZ
         go_wp2_with (first
          |(go_at_call 37;refine(mW.out _).mono ?_;rintro e w4 ⟨rfl,hw⟩;subst w4)
          |fail)
         go_meet
         case rel=>exact⟨by rw[HQ.out],rfl⟩
       case rest =>
        obtain⟨rfl,rfl⟩:=hcut;cases bad with
        |true =>
         have kC:=h_ (show R=none by
          have hb:=HBAD.out;rw[eq_comm,decide_eq_true_eq]at hb;rw[HR2.out];unfold W5;dsimp only;rw[if_pos hb])
         go_wp2_with (first
          |(refine SY rfl (.tmp 2) (.tmp 77) rfl w w.heap.size R0 R0 (H42.out.below I5.out.bL) rfl rfl ?_;intro w6 i6;have I6:=h_ i6;clear i6)
          |fail)
         exact Tb rfl rfl I6.out (by rw[kC.out];rfl)
        |false =>
         obtain⟨y2,hy2⟩:=az (bG (c::q))
         have HR3:=h_ (show R=if xH y2=[]then some ⟨dd,false,[]⟩else some ⟨dd,true,uG (ly (xH y2))⟩ by
          have hb:=HBAD.out;rw[eq_comm,decide_eq_false_iff_not]at hb;rw[HR2.out];unfold W5;dsimp only;rw[if_neg hb,hy2])
         obtain⟨yc,hyc⟩:=az (bs y2);have hb2:=fun W=>ko (c::q) W (by omega);rw[<-X5.out,<-hy2,show S y2=.string yc by rw[hyc]]at hb2;have HB2:=h_ hb2;have a0S:y2.length<=1000000:=by rw[hy2];exact ap (show(bG (c::q)).length<=(c::q).length from(cD _).length_le) hyl
         have Ug:=h_ hyc;obtain⟨sp,hsp⟩:=az (Tj y2);have j0:=h_ hsp;clear hsp hyc hb2 hy2 X5 HBAD HR2 e1 e2 hx hyl
         go_upto_region 18 with(first
          |(go_at_call 61;refine(HB2.out _).mono ?_;rintro e w4 ⟨rfl,hw⟩;subst w4)
          |fail)
         clear HB2
         go_cut [91]from 80 to 90 (fun q wx=>q=.bool sp∧wx=wc)
         case first =>
          cases y2 with
          |nil =>
           have e1:yc.toList.isEmpty=true:=by rw[Ug.out,ay];rfl
           have e2:yc.toList=[]:=by rw[Ug.out,ay]
           go_wp2_with fail
           go_meet
           case rel=>exact⟨by rw[j0.out];rfl,rfl⟩
          |cons c2 q2 =>
           have e1:yc.toList.isEmpty=false:=by rw[Ug.out,ay];rfl
           have e2:¬ yc.toList=[]:=by rw[Ug.out,ay];simp
           have yc0:0<yc.size:=by rw[Ug.out,aM];simp
           have hx:=cJ Ug.out yc0 (by simp);rw[show b2 (c2::q2)[0]=b2 c2 from rfl]at hx;by_cases lJ:c2=59
           ·have HQ:=h_ (show sp=true by rw[j0.out,lJ];rfl)
            rw[lJ,show b2 59=59 from rfl]at hx;clear lJ
            go_wp2_with fail
            go_meet
            case rel=>exact⟨by rw[HQ.out],rfl⟩
           have Hv:(b2 c2==59)=false:=by simp;exact fun e=>lJ (fB e)
           by_cases AZ:c2=44
           ·have HQ:=h_ (show sp=true by rw[j0.out,AZ];rfl)
            rw[AZ,show b2 44=44 from rfl]at hx;clear lJ AZ Hv
            go_wp2_with fail
            go_meet
            case rel=>exact⟨by rw[HQ.out],rfl⟩
           have HQ:=h_ (show sp=false by rw[j0.out];show(decide (c2=59)||decide (c2=44))=false;rw[decide_eq_false lJ,decide_eq_false AZ];rfl);have q44:(b2 c2==44)=false:=by simp;exact fun e=>AZ (fB e)
           obtain⟨cz,hcz⟩:=az (b2 c2);rw[<-hcz]at hx Hv q44;have a5Q:¬ cz=59:=by simpa using Hv
           have a5O:¬ cz=44:=by simpa using q44
           clear hcz lJ AZ
           go_wp2_with fail
           go_meet
           case rel=>exact⟨by rw[HQ.out],rfl⟩
         case rest =>
          obtain⟨rfl,rfl⟩:=hcut;obtain⟨x,hx⟩:=az (xH y2);obtain⟨xb,hxb⟩:=az (bs x);have HX:=h_ hx;have HXB:=h_ hxb;rw[<-hx]at HR3;clear hx hxb
          go_upto_if 91 with fail
          go_cut [0]from 92 to 94 (fun v wx=>v=.string xb∧wx=wc)
          case first =>
           cases sp with
           |true =>
            obtain⟨c2,q2,hyq,_,hsf⟩:=Xc j0.out.symm;obtain⟨M,hM⟩:=az (q2.length+1);have b32:yc.size=M:=by rw[Ug.out,aM,hyq,hM];rfl
            have hM1:1<=M:=by omega
            have b3m:(1:Int)<=(M:Int):=by omega
            obtain⟨rb,hrb⟩:=az (bs q2);have hex:yc.extract 1 M=rb:=by rw[Ug.out,hrb,bX,hyq,hM];simp
            have hb3:=fun W=>ko q2 W (by rw[hyq,ag]at a0S;omega);rw[<-hrb,<-hsf,<-HX.out,show S x=.string xb by rw[HXB.out]]at hb3;have HB3:=h_ hb3;clear hb3 hrb hM hyq hsf
            go_wp2_with (first
             |(go_at_call 61;refine(HB3.out _).mono ?_;rintro e w4 ⟨rfl,hw⟩;subst w4)
             |fail)
            go_meet
            case rel=>exact⟨rfl,rfl⟩
           |false =>
            have HQ:=h_ (show yc=xb by rw[Ug.out,HXB.out,HX.out,a1y j0.out.symm])
            go_wp2_with fail
            go_meet
            case rel=>exact⟨by rw[HQ.out],rfl⟩
          case rest =>
           obtain⟨rfl,rfl⟩:=hcut
           have hxl:x.length<=1000000:=by
            rw[HX.out];refine ap ?_ a0S;cases y2 with
            |nil=>exact af _
            |cons c2 q2 =>
             show(if c2=59∨c2=44 then bG q2 else c2::q2).length<=_
             split
             ·exact ap (show(bG q2).length<=q2.length from(cD _).length_le) (gQ _)
             exact af _
           clear HX Ug j0 a0S;by_cases hxn:x=[]
           ·have e1:xb.toList.isEmpty=true:=by rw[HXB.out,ay,hxn];rfl
            have e2:xb.toList=[]:=by rw[HXB.out,ay,hxn]
            have kC:=h_ (show R=some ⟨dd,false,[]⟩ by rw[HR3.out,if_pos hxn]);clear hxn
            go_wp2_with (first
             |(refine a0h rfl (.tmp 5) rfl w2 b5 ⟨dd,false,[]⟩ I5.out rfl ?_)
             |(refine SY rfl (.tmp 2) (.tmp 97) rfl w w.heap.size R0 ⟨dd,false,[]⟩ (H42.out.below I5.out.bL) rfl rfl ?_;intro w6 i6;have I6:=h_ i6;clear i6)
             |fail)
            exact Tb rfl rfl I6.out (by rw[kC.out];rfl)
           have e1:xb.toList.isEmpty=false:=by rw[HXB.out,ay];cases x <;>simp_all
           have e2:¬ xb.toList=[]:=by rw[HXB.out,ay];exact hxn
           obtain⟨un,hun⟩:=az (ly x)
           have Wj:un.length<=1000000:=by
            rw[hun];refine ap ?_ hxl;unfold ly
            split
            ·have h1:(bG (x.drop 3)).length<=(x.drop 3).length:=(cD _).length_le
             rw[ah]at h1
             split
             ·exact af _
             next d t he =>
             rw[he,ag]at h1
             split
             ·have h2:(bG t).length<=t.length:=(cD _).length_le
              omega
             exact af _
            exact af _
           obtain⟨uq,huq⟩:=az (uG un);have kC:=h_ (show R=some ⟨dd,true,uq⟩ by rw[HR3.out,if_neg hxn,huq,hun]);have hc1:=fun W=>E9 x W (by omega);obtain⟨ub,hub⟩:=az (bs un);rw[<-HXB.out,<-hun,show S un=.string ub by rw[hub]]at hc1;have hc2:=fun W (hb:Below w.heap.size w W)=>BV un W (by omega) (HE.out.below hb);rw[<-hub,<-huq]at hc2;have HC1:=h_ hc1;have Oa:=h_ hc2;have HW2:=h_ H42.out.bL;clear hc1 hc2 hub huq hun Wj hxn HR3
           go_upto_region 23 with(first
            |(refine oX rfl 4 (.tmp 98) (.const (.bool true)) rfl w2 b5 63 (cW ⟨dd,false,[]⟩) I5.out 1 (.bool true) rfl rfl (by show 1<3;decide) bU.2.2 rfl (cW ⟨dd,true,[]⟩) rfl ?_;intro w4 i4 _ _;have I64:=h_ i4;clear i4)
            |fail)
           go_wp2_with (first
            |(go_at_call 65;refine(HC1.out _).mono ?_;rintro e w6 ⟨rfl,hb6⟩;have I66:=h_ (I64.out.below hb6);clear hb6)
            |(go_at_call 64;refine(Oa.out _ (iK HW2.out I66.out.bL)).mono ?_;rintro e w7 ⟨rfl,Ft⟩;have I67:=h_ (I66.out.below Ft);clear Ft)
            |(refine oX rfl 9 (.tmp 102) (.tmp 101) rfl w2 b5 63 (cW ⟨dd,true,[]⟩) I67.out 2 (S uq) rfl rfl (by show 2<3;decide) bU.1 rfl (cW ⟨dd,true,uq⟩) rfl ?_;intro w8 i8 _ _;have I68:=h_ i8;clear i8)
            |(refine a0h rfl (.tmp 5) rfl w2 b5 ⟨dd,true,uq⟩ I68.out rfl ?_)
            |(refine SY rfl (.tmp 2) (.tmp 103) rfl w w.heap.size R0 ⟨dd,true,uq⟩ (H42.out.below I68.out.bL) rfl rfl ?_;intro w9 i9;have I69:=h_ i9;clear i9)
            |fail)
           exact Tb rfl rfl I69.out (by rw[kC.out];rfl)
end Go.Proofs.YtmndlfglgcioeaaGreatDoor
