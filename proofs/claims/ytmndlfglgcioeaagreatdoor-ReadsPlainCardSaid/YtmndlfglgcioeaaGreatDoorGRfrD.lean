/- RfrD RfrE: joined. -/
import Derived.Deep.CutBlock
import Derived.Test.YtmndlfglgcioeaaGreatDoorGWlkY
import Derived.Test.YtmndlfglgcioeaaGreatDoorGEntD
import Derived.Test.YtmndlfglgcioeaaGreatDoorGAthH
import Derived.Test.YtmndlfglgcioeaaGreatDoorShelf3
set_option maxHeartbeats 40000000
namespace Go.Proofs.YtmndlfglgcioeaaGreatDoor
open Tryz
open Go.RowKit
set_option maxRecDepth 10000
def bT (r:FV):Array Value:=#[S r.delay,.bool r.has,S r.url]
abbrev R0:FV:=⟨[],false,[]⟩
theorem ye:(prog.info? 63).map (·.size)=some 3:=by kernel_rfl
theorem JU (w:World):(Instr.alloc 63 true (Value.tuple #[])).run prog w=.ok (.pointer (some ⟨w.heap.size,0,none⟩)) (w.alloc (.cells (bT R0) 63)):=by kernel_rfl
theorem Sy:∀ w,(Instr.build 63 #[]).run prog w=.ok (.agg (bT R0)) w:=fun w=>by kernel_rfl
theorem YD (d:Bytes):∀ w,(Instr.build 63 #[(0,S d)]).run prog w=.ok (.agg (bT ⟨d,false,[]⟩)) w:=fun w=>by kernel_rfl
theorem Tk (r:FV):∀ v∈(bT r).toList,v.oneCell'=true:=by
 intro v hv
 simp only[bT,aN,ci,or_false]at hv
 rcases hv with rfl|rfl|rfl <;>rfl
def rfE:Option FV->Ending
 |none=>.returned (.tuple #[.agg (bT R0),.bool false])
 |some r=>.returned (.tuple #[.agg (bT r),.bool true])
section
variable {ops:Array Oper} {rest:List Oper} {o:Oper} {a:Act} {w:World} {Q:Exit->Act->World->Prop}
theorem Ng (hgd:o.guard=none) (x y:Operand) (ho:o.op=.store 63 x y) (w0:World) (b:Nat) (r0 r:FV) (i:OB w0 b 63 (bT r0) w) (hx:a.eval x=.pointer (some ⟨b,0,none⟩)) (hy:a.eval y=.agg (bT r))
  (K:∀ w',OB w0 b 63 (bT r) w'->wpList prog ops Q rest (a.put o.dst undef) w'):wpList prog ops Q (o::rest) a w :=
 Hu hgd 63 x y ho w0 b 63 (bT r0) i 0 (bT r).toList hx hy (bA rfl) ye (Tk r) (bT r) rfl K
theorem newR {W:World} (hgd:o.guard=none) (x y:Operand) (ho:o.op=.store 63 x y) (r:FV) (hW:W=w.alloc (.cells (bT R0) 63)) (hx:a.eval x=.pointer (some ⟨w.heap.size,0,none⟩)) (hy:a.eval y=.agg (bT r))
  (k:∀ w',OB w w.heap.size 63 (bT r) w'->wpList prog ops Q rest (a.put o.dst undef) w'):wpList prog ops Q (o::rest) a W :=
 kf hgd _ x y ho (bT r) (bT R0) ye rfl (all_oneCell_toArray (Tk r)) hW hx hy fun w' c b=>k w' (OB.of c (ae _) b)
theorem Vf (hg:o.guard=none) (x:Operand) (ho:o.op=.load 63 x) (w0:World) (b:Nat) (r:FV) (i:OB w0 b 63 (bT r) w) (hx:a.eval x=.pointer (some ⟨b,0,none⟩)) (K:wpList prog ops Q rest (a.put o.dst (.agg (bT r))) w):wpList prog ops Q (o::rest) a w :=
 zP hg _ x ho w0 b 63 (bT r) i _ hx underlying63 rfl ye K
end
theorem Nu {tmps:Array Value} {w w2:World} {b:Nat} {r:FV} {q:Bool} (h2:tmps.getD 2 undef=.pointer (some ⟨b,0,none⟩)) (h3:tmps.getD 3 undef=.bool q) (i:OB w b 63 (bT r) w2) {R:Option FV} (hR:rfE R=.returned (.tuple #[.agg (bT r),.bool q])) :
  bodyPost prog f31 (fun e w'=>e=rfE R∧Below w.heap.size w w') Exit.ret {tmps:=tmps,defers:=[]} w2:=by
 have h2':tmps[2]?.getD undef=.pointer (some ⟨b,0,none⟩):=by simpa using h2
 have h3':tmps[3]?.getD undef=.bool q:=by simpa using h3
 have hl:=i.load (P:=prog) 63 _ underlying63 rfl ye
 refine bodyPost_ret (v:=.tuple #[.agg (bT r),.bool q]) ?_ rfl ⟨hR.symm,i.bq⟩
 simp[results,results31,asAddr,h2',h3',hl]
theorem DQ (p:UInt8->Bool):∀ (l:Bytes) (k:Nat) (_:k<(l.takeWhile p).length) (h2:k<l.length),p l[k]=true
 | [],k,h,h2=>absurd h2 (bE _)
 |x::r,k,h,h2=>by
  cases hx:p x with
  |false=>rw[bd (by rw[hx];simp)]at h;exact absurd h (bE _)
  |true =>
   rw[bo hx]at h
   cases k with
   |zero=>exact hx
   |succ k=>exact DQ p r k (by simpa using h) (by simpa using h2)
theorem yr (p:UInt8->Bool):∀ (l:Bytes) (h:(l.takeWhile p).length<l.length),p l[(l.takeWhile p).length]=false
 | [],h=>absurd h (bE _)
 |x::r,h=>by
  cases hx:p x with
  |false =>
   have e:(x::r).takeWhile p=[]:=bd (by rw[hx];simp)
   simp only[e,aQ,uG,hx]
  |true =>
   have e:(x::r).takeWhile p=x::r.takeWhile p:=bo hx
   have h2:(r.takeWhile p).length<r.length:=by rw[e]at h;simpa using h
   have ih:=yr p r h2
   simp only[e,ag,List.getElem_cons_succ]
   exact ih
theorem uo (p:UInt8->Bool):∀ l:Bytes,l.drop (l.takeWhile p).length=l.dropWhile p
 | []=>rfl
 |c::r=>by
  cases h:p c with
  |true=>rw[bo h,bh h,ag,AS,uo p r]
  |false=>rw[bd (by rw[h];simp),bC (by rw[h];simp)];rfl
theorem AF (p:UInt8->Bool):∀ l:Bytes,l.take (l.takeWhile p).length=l.takeWhile p
 | []=>rfl
 |c::r=>by
  cases h:p c with
  |true=>rw[bo h,ag,ex,AF p r]
  |false=>rw[bd (by rw[h];simp)];rfl
theorem E4 (x:UInt8):kM x=true ↔ 48<=b2 x∧b2 x<=57:=by unfold kM;rw[decide_eq_true_eq]
theorem KJ (x:UInt8) (W:World) (h:kM x=true):∃ d:Int,0<=d∧Calls prog 62 #[.int .u8 (b2 x),.int .i64 10] W fun e w'=>e=.returned (.int .i64 d)∧W=w':=by
 have hc:=(E4 x).1 h
 have hd:=cY (b2 x) 10 W ⟨(gl x).1,(gl x).2⟩ (by decide)
 rw[rT.1 hc]at hd
 exact⟨b2 x-48,by omega,hd⟩
theorem KK (x:UInt8) (W:World) (h:kM x=false):Calls prog 62 #[.int .u8 (b2 x),.int .i64 10] W fun e w'=>e=.returned (.int .i64 (-1))∧W=w':=by
 have hc:¬ (48<=b2 x∧b2 x<=57):=fun hh=>by rw[(E4 x).2 hh]at h;cases h
 have hd:=cY (b2 x) 10 W ⟨(gl x).1,(gl x).2⟩ (by decide)
 rw[rT.2 hc]at hd
 exact hd
theorem a0D (u:Bytes) (w:World):Calls prog 63 #[.string (bs u),.string (bs [48])] w fun e w'=>e=.returned (S (u.dropWhile z48))∧Below w.heap.size w w':=by
 have h116:(prog.info? (laysTL_ren.t 116)).map (fun i=>(i.zero,i.size))=some (some (.agg (Array.replicate 256 (.bool false))),256):=by kernel_rfl
 have h:=Any.strings_TrimLeft_laid laysTL h116 (bs u) (bs [48]) w (by decide) (ascii_of_all (by decide))
 rw[show(bs u).data.toList=u from du u,show(bs [48]).data.toList=[48]from du _]at h
 refine h.mono ?_
 rintro e w' ⟨rfl,hb⟩
 refine⟨?_,hb⟩
 have e1:Lib.trimLeftS u [48]=u.dropWhile z48:=by
  unfold Lib.trimLeftS
  congr 1
  funext x
  unfold z48
  by_cases hx:x=48 <;>simp[hx]
 rw[e1]
 rfl
theorem Pu (l:Bytes):Lib.hasPrefix l [46]=decide (l.head? = some 46):=by
 cases l with
 |nil=>rfl
 |cons x r =>
  show((46==x)&&true)=_
  rw[lH,mM]
  by_cases h:x=46
  ·subst h;rfl
  rw[decide_eq_false (by simpa using h)]
  simp only[beq_eq_false_iff_ne]
  exact fun e=>h e.symm

def NC (y:Bytes):Bool:=match y with
 | []=>false
 |c::_=>decide (c=59)||decide (c=44)
theorem QS {y:Bytes} (h:NC y=true):∃ c r,y=c::r∧(c=59∨c=44)∧t4 y=bz r:=by
 cases y with
 |nil=>cases h
 |cons c r =>
  have h2:c=59∨c=44:=by simpa[NC]using h
  refine⟨c,r,rfl,h2,?_⟩
  show(if c=59∨c=44 then bz r else c::r)=_
  rw[if_pos h2]
theorem Wo {y:Bytes} (h:NC y=false):t4 y=y:=by
 cases y with
 |nil=>rfl
 |cons c r =>
  have h2:¬ (c=59∨c=44):=by simpa[NC]using h
  show(if c=59∨c=44 then bz r else c::r)=_
  rw[if_neg h2]
theorem oA (s:Bytes) (w:World) (hL:s.length<=1000000) (hE:Env w):Calls prog 31 #[.string (bs s)] w fun e w'=>e=rfE (uU s)∧Below w.heap.size w w':=by
 obtain⟨sb,hsb⟩:=ap (bs s)
 obtain⟨z,hz⟩:=ap (bz s)
 have hzl:z.length<=1000000:=by rw[hz];exact aq (show(bz s).length<=s.length from(ct _).length_le) hL
 obtain⟨zb,hzb⟩:=ap (bs z)
 have hb1:=fun W=>ig s W (by omega)
 rw[<-hsb,<-hz,show S z=.string zb by rw[hzb]]at hb1
 have HB1:=h_ hb1
 obtain⟨R,hR⟩:=ap (uU s)
 have HR:=h_ (show R=Wi z by rw[hR,hz];rfl)
 rw[<-hsb,<-hR]
 have HE:=h_ hE
 obtain⟨N,hN⟩:=ap (z.length)
 have hsz:zb.size=N:=by rw[hzb,aB,hN]
 have HN:=h_ hN
 have Ok:=h_ hzb
 rw[<-hN]at hzl
 obtain⟨D,hD⟩:=ap ((z.takeWhile kM).length)
 have hDN:D<=N:=by rw[hD,hN];exact(ve _).length_le
 have HD:=h_ hD
 clear hb1 hz hR hE hN hzb hD hsb hL
 go_enter func31,ntmps31
 go_upto_region 1 with(first
  |(refine aE rfl 63 rfl _ _ (JU _) ?_)
  |fail)
 have h4:=OB.fresh w 63 (bT R0)
 obtain⟨w1,hw1⟩:=ap (w.alloc (.cells (bT R0) 63))
 rw[<-hw1]at h4 ⊢
 have H4:=h_ h4
 clear h4 hw1
 go_upto_block 0 with(first
  |(go_at_call 61;refine(HB1.out _).mono ?_;rintro e w2 ⟨rfl,hw⟩;subst w2)
  |fail)
 clear HB1
 go_cut [4]from 8 to 20 (fun kv wx=>kv=.int .i64 (D:Int)∧wx=w1)
 case first =>
  go_wp2_with fail
  go_loopw [4] (fun iv wr=>∃ k:Nat,k<=D∧iv=.int .i64 k∧wr=w1) (fun i _=>D-(intOf i).toNat)
  case atStart=>exact⟨0,aO _,rfl,rfl⟩
  case round =>
   obtain⟨k,hk,rfl,hw⟩:=hrel
   subst wr
   by_cases hlt:k<D
   ·have hkl:k<z.length:=by have:=HN.out;omega
    have hkb:k<zb.size:=by omega
    have hx:=bV Ok.out hkb hkl
    obtain⟨d,hd0,hdg⟩:=KJ z[k] w1 (DQ kM z k (by rw[<-HD.out];exact hlt) hkl)
    obtain⟨c,hc⟩:=ap (b2 z[k])
    rw[<-hc]at hx hdg
    have Ji:=h_ hdg
    clear hdg hc
    go_wp2_with (first
     |(go_at_call 62;refine(Ji.out).mono ?_;rintro e w3 ⟨rfl,hw⟩;subst w3)
     |fail)
    go_roundw
    case rel=>exact⟨k+1,by omega,by go_num,by trivial⟩
    case measure=>simp[intOf];omega
   obtain rfl:k=D:=by omega
   by_cases hkN:k<N
   ·have hkl:k<z.length:=by have:=HN.out;omega
    have hkb:k<zb.size:=by omega
    have hx:=bV Ok.out hkb hkl
    have hst:kM z[k]=false:=by
     have h:=yr kM z (by rw[<-HD.out];exact hkl)
     simp only[<-HD.out]at h
     exact h
    have hdg:=KK z[k] w1 hst
    obtain⟨c,hc⟩:=ap (b2 z[k])
    rw[<-hc]at hx hdg
    have Ji:=h_ hdg
    clear hdg hc hst
    go_wp2_with (first
     |(go_at_call 62;refine(Ji.out).mono ?_;rintro e w3 ⟨rfl,hw⟩;subst w3)
     |fail)
    go_meet
    case rel=>exact⟨rfl,rfl⟩
   go_wp2_with fail
   go_meet
   case rel=>exact⟨rfl,rfl⟩
 case rest =>
  obtain⟨rfl,rfl⟩:=hcut
  obtain⟨u,hu⟩:=ap (z.takeWhile kM)
  have huD:D=u.length:=by rw[hu];exact HD.out
  have HDR:=h_ (show z.drop D=z.dropWhile kM by rw[HD.out];exact uo kM z)
  obtain⟨bad,hbad⟩:∃ b:Bool,b=decide (D=0∧z.head? ≠ some 46):=⟨_,rfl⟩
  have HBAD:=h_ hbad
  have HUD:=h_ huD
  have HU:=h_ hu
  clear hbad huD hu
  go_upto_region 5 with fail
  go_cut [27]from 21 to 26 (fun q wx=>q=.bool bad∧wx=wc)
  case first =>
   by_cases h0:D=0
   ·have hp:=fun W=>n7 z [46] W
    rw[<-Ok.out,Pu]at hp
    obtain⟨q,hq⟩:=ap (decide (z.head? = some 46))
    rw[<-hq]at hp
    have HP:=h_ (show ∀W,Calls prog 57 #[.string zb,.string ⟨#[46]⟩] W fun e w'=>e=.returned (.bool q)∧w'=W from hp)
    have HQ:=h_ (show bad=!q by rw[HBAD.out,hq,<-decide_not,decide_eq_decide];exact⟨fun h=>h.2,fun h=>⟨h0,h⟩⟩)
    have qD:(((D:Nat):Int)==0)=true:=by simp[h0]
    clear hp hq h0
    go_wp2_with (first
     |(go_at_call 57;refine(HP.out _).mono ?_;rintro e w3 ⟨rfl,hw⟩;subst w3)
     |fail)
    go_meet
    case rel=>exact⟨by rw[HQ.out],rfl⟩
   have HQ:=h_ (show bad=false by rw[HBAD.out,decide_eq_false_iff_not];exact fun h=>h0 h.1)
   have qD:(((D:Nat):Int)==0)=false:=by simp[h0]
   have nD:¬ ((D:Nat):Int)=0:=by omega
   clear h0
   go_wp2_with fail
   go_meet
   case rel=>exact⟨by rw[HQ.out],rfl⟩
  case rest =>
   obtain⟨rfl,rfl⟩:=hcut
   cases bad with
   |true =>
    have gW:=h_ (show R=none by
     have hb:=HBAD.out
     rw[eq_comm,decide_eq_true_eq]at hb
     rw[HR.out]
     unfold Wi
     rw[if_pos ⟨by rw[<-HU.out];exact am (by rw[<-HUD.out];exact hb.1),hb.2⟩])
    go_wp2_with (first
     |(refine bG rfl 63 #[] rfl (.agg (bT R0)) #[] rfl Sy ?_)
     |(refine Ng rfl (.tmp 2) (.tmp 28) rfl w w.heap.size R0 R0 H4.out rfl rfl ?_;intro w5 i5;have I5:=h_ i5;clear i5)
     |fail)
    exact Nu rfl rfl I5.out (by rw[gW.out];rfl)
   |false =>
    have HR2:=h_ (show R=Wj (kX u) ((z.drop D).dropWhile pd) by
     have hb:=HBAD.out
     rw[eq_comm,decide_eq_false_iff_not]at hb
     rw[HR.out]
     unfold Wi
     rw[if_neg (fun h=>hb ⟨by rw[HUD.out,HU.out,h.1];rfl,h.2⟩),<-HU.out,HDR.out])
    clear HR HBAD
    obtain⟨tb,htb⟩:=ap (bs u)
    have hex:zb.extract 0 D=tb:=by rw[Ok.out,htb,bM,HU.out,HD.out];simp[AF]
    obtain⟨dl,hdl⟩:=ap (u.dropWhile z48)
    have htl:=fun W=>a0D u W
    rw[<-htb,<-hdl]at htl
    have yT:=h_ (show ∀W,Calls prog 63 #[.string tb,.string ⟨#[48]⟩] W fun e w'=>e=.returned (S dl)∧Below W.heap.size W w' from htl)
    have Rx:=h_ (show kX u=if dl=[]then [48]else dl by rw[hdl];rfl)
    clear htb hdl htl
    go_upto_region 8 with(first
     |(go_at_call 63;refine(yT.out _).mono ?_;rintro e w2 ⟨rfl,hb2⟩;have HB2:=h_ hb2;clear hb2)
     |(refine bG rfl 63 #[(0,.tmp 32)] rfl (.agg (bT ⟨dl,false,[]⟩)) #[(0,S dl)] rfl (YD dl) ?_)
     |(refine aE rfl 63 rfl _ _ (JU _) ?_)
     |(refine newR rfl (.tmp 5) (.tmp 33) rfl ⟨dl,false,[]⟩ rfl rfl rfl ?_;intro w3 i3;have I3:=h_ i3;clear i3)
     |fail)
    have Xm:=h_ (H4.out.below HB2.out)
    obtain⟨b5,hb5⟩:=ap (w2.heap.size)
    rw[<-hb5]at I3 ⊢
    have fK:=h_ hb5
    obtain⟨db,hdb⟩:=ap (bs dl)
    have c0:w3.cell? ⟨b5,0,none⟩=some (.string db):=by rw[hdb];exact I3.out.ak rfl
    have Xy:=h_ hdb
    clear hb5 hdb hex yT HB2 H4
    go_upto_if 36 with fail
    obtain⟨em,hem⟩:∃ b:Bool,b=db.toList.isEmpty:=⟨_,rfl⟩
    rw[<-hem]
    have HEM:=h_ (show em=decide (dl=[]) by rw[hem,Xy.out,au];cases dl <;>rfl)
    clear hem
    go_cut []from 37 to 37 (fun wx=>Hid (OB w2 b5 63 (bT ⟨kX u,false,[]⟩) wx))
    case first =>
     clear c0
     cases em with
     |true =>
      have HF:=h_ (show kX u=[48] by rw[Rx.out,if_pos (of_decide_eq_true HEM.out.symm)])
      go_wp2_with (first
       |(refine mB rfl 9 (.tmp 37) (.const (.string ⟨#[48]⟩)) rfl w2 b5 63 (bT ⟨dl,false,[]⟩) I3.out 0 (S [48]) rfl rfl (by show 0<3;decide) bF.1 rfl (bT ⟨[48],false,[]⟩) rfl ?_;intro w4 i4 _ _;have I4:=h_ i4;clear i4)
       |fail)
      go_meet
      case rel=>exact h_ (by rw[HF.out];exact I4.out)
     |false =>
      have HF:=h_ (show kX u=dl by rw[Rx.out,if_neg (of_decide_eq_false HEM.out.symm)])
      go_wp2_with fail
      go_meet
      case rel=>exact h_ (by rw[HF.out];exact I3.out)
    case rest =>
     obtain⟨dd,hdd⟩:=ap (kX u)
     rw[<-hdd]at HR2 hcut
     obtain⟨v,hv⟩:=ap (z.drop D)
     have HV:=h_ hv
     rw[<-hv]at HR2
     obtain⟨E,hE⟩:=ap (D+(v.takeWhile pd).length)
     have hEN:E<=N:=by
      have h1:(v.takeWhile pd).length<=v.length:=(ve _).length_le
      have h2:v.length=N-D:=by rw[hv,ai,HN.out]
      omega
     have Y3:D<=E:=by omega
     have HEE:=h_ hE
     have I5:=hcut
     clear hdd hv hE hcut c0 Xy Rx I3 HUD HU HDR
     go_upto_block 2 with fail
     go_cut [4]from 38 to 56 (fun kv wx=>kv=.int .i64 (E:Int)∧wx=wc)
     case first =>
      go_wp2_with fail
      go_loopw [4] (fun iv wr=>∃ k:Nat,D<=k∧k<=E∧iv=.int .i64 k∧wr=wc) (fun i _=>E-(intOf i).toNat)
      case atStart=>exact⟨D,ae _,Y3,rfl,rfl⟩
      case round =>
       obtain⟨k,hDk,hk,rfl,hw⟩:=hrel
       subst wr
       have hvN:v.length=N-D:=by rw[HV.out,ai,HN.out]
       have hkv:∀ (h1:k<z.length) (h2:k-D<v.length),v[k-D]=z[k]:=fun h1 h2=>by
        simp only[HV.out,IL]
        simp only[show D+(k-D)=k from by omega]
       by_cases hlt:k<E
       ·have hkl:k<z.length:=by have:=HN.out;omega
        have hkb:k<zb.size:=by omega
        have hx:=bV Ok.out hkb hkl
        have hvl:k-D<v.length:=by omega
        have hq:=DQ pd v (k-D) (by have:=HEE.out;omega) hvl
        rw[hkv hkl hvl]at hq
        by_cases h46:z[k]=46
        ·rw[h46,show b2 46=46 from rfl]at hx
         clear hq h46 hkv hvN hvl
         go_wp2_with fail
         go_roundw
         case rel=>exact⟨k+1,by omega,by omega,by go_num,by trivial⟩
         case measure=>simp[intOf];omega
        have hd:kM z[k]=true:=by
         unfold pd at hq
         rw[decide_eq_false h46]at hq
         exact hq
        obtain⟨d,hd0,hdg⟩:=KJ z[k] wc hd
        have q46:(b2 z[k]==46)=false:=by simp;exact fun e=>h46 (dz e)
        obtain⟨c,hc⟩:=ap (b2 z[k])
        rw[<-hc]at hx hdg q46
        have a4K:¬ c=46:=by simpa using q46
        have Ji:=h_ hdg
        clear hdg hc hd hq h46 hkv hvN hvl
        go_wp2_with (first
         |(go_at_call 62;refine(Ji.out).mono ?_;rintro e w4 ⟨rfl,hw⟩;subst w4)
         |fail)
        go_roundw
        case rel=>exact⟨k+1,by omega,by omega,by go_num,by trivial⟩
        case measure=>simp[intOf];omega
       obtain rfl:k=E:=by omega
       by_cases hkN:k<N
       ·have hkl:k<z.length:=by have:=HN.out;omega
        have hkb:k<zb.size:=by omega
        have hx:=bV Ok.out hkb hkl
        have hvl:k-D<v.length:=by omega
        have hm:(v.takeWhile pd).length=k-D:=by have:=HEE.out;omega
        have hst:pd z[k]=false:=by
         have h:=yr pd v (by rw[hm];exact hvl)
         simp only[hm]at h
         rw[hkv hkl hvl]at h
         exact h
        have h2:=yy.1 (show(decide (z[k]=46)||kM z[k])=false from hst)
        have h46:¬ z[k]=46:=of_decide_eq_false h2.1
        have hdg:=KK z[k] wc h2.2
        have q46:(b2 z[k]==46)=false:=by simp;exact fun e=>h46 (dz e)
        obtain⟨c,hc⟩:=ap (b2 z[k])
        rw[<-hc]at hx hdg q46
        have a4K:¬ c=46:=by simpa using q46
        have Ji:=h_ hdg
        clear hdg hc h2 hst h46 hkv hvN hvl hm
        go_wp2_with (first
         |(go_at_call 62;refine(Ji.out).mono ?_;rintro e w4 ⟨rfl,hw⟩;subst w4)
         |fail)
        go_meet
        case rel=>exact⟨rfl,rfl⟩
       clear hkv hvN
       go_wp2_with fail
       go_meet
       case rel=>exact⟨rfl,rfl⟩
     case rest =>
      obtain⟨rfl,rfl⟩:=hcut
      obtain⟨y,hy⟩:=ap (v.dropWhile pd)
      have hyd:y=z.drop E:=by
       rw[hy,<-uo pd v,HEE.out]
       generalize (v.takeWhile pd).length=m
       rw[HV.out,oH]
      rw[<-hy]at HR2
      obtain⟨yb,hyb⟩:=ap (bs y)
      have hex:zb.extract E N=yb:=by rw[Ok.out,hyb,hyd,bM,aI (by rw[ai,HN.out];exact ae _)]
      have hyl:y.length<=1000000:=by rw[hyd,ai,<-HN.out];omega
      have RM:=h_ hyb
      clear hy hyd hyb HV HEE Ok
      cases y with
      |nil =>
       have e1:yb.toList.isEmpty=true:=by rw[RM.out,au];rfl
       have e2:yb.toList=[]:=by rw[RM.out,au]
       have gW:=h_ (show R=some ⟨dd,false,[]⟩from HR2.out)
       go_wp2_with (first
        |(refine Vf rfl (.tmp 5) rfl w2 b5 ⟨dd,false,[]⟩ I5.out rfl ?_)
        |(refine Ng rfl (.tmp 2) (.tmp 62) rfl w w.heap.size R0 ⟨dd,false,[]⟩ (Xm.out.below I5.out.bq) rfl rfl ?_;intro w6 i6;have I6:=h_ i6;clear i6)
        |fail)
       exact Nu rfl rfl I6.out (by rw[gW.out];rfl)
      |cons c q =>
       have e1:yb.toList.isEmpty=false:=by rw[RM.out,au];rfl
       have e2:¬ yb.toList=[]:=by rw[RM.out,au];simp
       have y0:0<yb.size:=by rw[RM.out,aB];simp
       have hx:=bV RM.out y0 (by simp)
       rw[show b2 (c::q)[0]=b2 c from rfl]at hx
       obtain⟨bad,hbad⟩:∃ b:Bool,b=decide (iE c=false∧c≠59∧c≠44):=⟨_,rfl⟩
       have HBAD:=h_ hbad
       clear hbad
       go_upto_region 15 with fail
       clear hex
       go_cut [76]from 63 to 75 (fun q wx=>q=.bool bad∧wx=wc)
       case first =>
        have hbl:=fun W=>iW (b2 c) W
        rw[show sq (b2 c)=iE c from rfl]at hbl
        cases hq:iE c with
        |true =>
         rw[hq]at hbl
         have HQ:=h_ (show bad=false by rw[HBAD.out,decide_eq_false_iff_not];exact fun h=>by rw[hq]at h;cases h.1)
         obtain⟨cz,hcz⟩:=ap (b2 c)
         rw[<-hcz]at hx hbl
         have nB:=h_ hbl
         clear hbl hcz hq
         go_wp2_with (first
          |(go_at_call 37;refine(nB.out _).mono ?_;rintro e w4 ⟨rfl,hw⟩;subst w4)
          |fail)
         go_meet
         case rel=>exact⟨by rw[HQ.out],rfl⟩
        |false =>
         rw[hq]at hbl
         by_cases jI:c=59
         ·have HQ:=h_ (show bad=false by rw[HBAD.out,decide_eq_false_iff_not];exact fun h=>h.2.1 jI)
          rw[jI,show b2 59=59 from rfl]at hx hbl
          have nB:=h_ hbl
          clear hbl hq jI
          go_wp2_with (first
           |(go_at_call 37;refine(nB.out _).mono ?_;rintro e w4 ⟨rfl,hw⟩;subst w4)
           |fail)
          go_meet
          case rel=>exact⟨by rw[HQ.out],rfl⟩
         by_cases zR:c=44
         ·have HQ:=h_ (show bad=false by rw[HBAD.out,decide_eq_false_iff_not];exact fun h=>h.2.2 zR)
          rw[zR,show b2 44=44 from rfl]at hx hbl
          have nB:=h_ hbl
          clear hbl hq jI zR
          go_wp2_with (first
           |(go_at_call 37;refine(nB.out _).mono ?_;rintro e w4 ⟨rfl,hw⟩;subst w4)
           |fail)
          go_meet
          case rel=>exact⟨by rw[HQ.out],rfl⟩
         have HQ:=h_ (show bad=true by rw[HBAD.out,decide_eq_true_eq];exact⟨hq,jI,zR⟩)
         have Dm:(b2 c==59)=false:=by simp;exact fun e=>jI (dz e)
         have q44:(b2 c==44)=false:=by simp;exact fun e=>zR (dz e)
         obtain⟨cz,hcz⟩:=ap (b2 c)
         rw[<-hcz]at hx hbl Dm q44
         have a0s:¬ cz=59:=by simpa using Dm
         have a0q:¬ cz=44:=by simpa using q44
         have n59:(cz != 59)=true:=by simpa using a0s
         have n44:(cz != 44)=true:=by simpa using a0q
         have nB:=h_ hbl
         clear hbl hcz hq jI zR
         go_wp2_with (first
          |(go_at_call 37;refine(nB.out _).mono ?_;rintro e w4 ⟨rfl,hw⟩;subst w4)
          |fail)
         go_meet
         case rel=>exact⟨by rw[HQ.out],rfl⟩
       case rest =>
        obtain⟨rfl,rfl⟩:=hcut
        cases bad with
        |true =>
         have gW:=h_ (show R=none by
          have hb:=HBAD.out
          rw[eq_comm,decide_eq_true_eq]at hb
          rw[HR2.out]
          unfold Wj
          dsimp only
          rw[if_pos hb])
         go_wp2_with (first
          |(refine bG rfl 63 #[] rfl (.agg (bT R0)) #[] rfl Sy ?_)
          |(refine Ng rfl (.tmp 2) (.tmp 77) rfl w w.heap.size R0 R0 (Xm.out.below I5.out.bq) rfl rfl ?_;intro w6 i6;have I6:=h_ i6;clear i6)
          |fail)
         exact Nu rfl rfl I6.out (by rw[gW.out];rfl)
        |false =>
         obtain⟨y2,hy2⟩:=ap (bz (c::q))
         have HR3:=h_ (show R=if t4 y2=[]then some ⟨dd,false,[]⟩else some ⟨dd,true,uv (jy (t4 y2))⟩ by
          have hb:=HBAD.out
          rw[eq_comm,decide_eq_false_iff_not]at hb
          rw[HR2.out]
          unfold Wj
          dsimp only
          rw[if_neg hb,hy2])
         obtain⟨yc,hyc⟩:=ap (bs y2)
         have hb2:=fun W=>ig (c::q) W (by omega)
         rw[<-RM.out,<-hy2,show S y2=.string yc by rw[hyc]]at hb2
         have HB2:=h_ hb2
         have VL:y2.length<=1000000:=by rw[hy2];exact aq (show(bz (c::q)).length<=(c::q).length from(ct _).length_le) hyl
         have Oj:=h_ hyc
         obtain⟨sp,hsp⟩:=ap (NC y2)
         have gF:=h_ hsp
         clear hsp hyc hb2 hy2 RM HBAD HR2 e1 e2 hx hyl
         go_upto_region 18 with(first
          |(go_at_call 61;refine(HB2.out _).mono ?_;rintro e w4 ⟨rfl,hw⟩;subst w4)
          |fail)
         clear HB2
         go_cut [91]from 80 to 90 (fun q wx=>q=.bool sp∧wx=wc)
         case first =>
          cases y2 with
          |nil =>
           have e1:yc.toList.isEmpty=true:=by rw[Oj.out,au];rfl
           have e2:yc.toList=[]:=by rw[Oj.out,au]
           go_wp2_with fail
           go_meet
           case rel=>exact⟨by rw[gF.out];rfl,rfl⟩
          |cons c2 q2 =>
           have e1:yc.toList.isEmpty=false:=by rw[Oj.out,au];rfl
           have e2:¬ yc.toList=[]:=by rw[Oj.out,au];simp
           have yc0:0<yc.size:=by rw[Oj.out,aB];simp
           have hx:=bV Oj.out yc0 (by simp)
           rw[show b2 (c2::q2)[0]=b2 c2 from rfl]at hx
           by_cases jI:c2=59
           ·have HQ:=h_ (show sp=true by rw[gF.out,jI];rfl)
            rw[jI,show b2 59=59 from rfl]at hx
            clear jI
            go_wp2_with fail
            go_meet
            case rel=>exact⟨by rw[HQ.out],rfl⟩
           have Dm:(b2 c2==59)=false:=by simp;exact fun e=>jI (dz e)
           by_cases zR:c2=44
           ·have HQ:=h_ (show sp=true by rw[gF.out,zR];rfl)
            rw[zR,show b2 44=44 from rfl]at hx
            clear jI zR Dm
            go_wp2_with fail
            go_meet
            case rel=>exact⟨by rw[HQ.out],rfl⟩
           have HQ:=h_ (show sp=false by rw[gF.out];show(decide (c2=59)||decide (c2=44))=false;rw[decide_eq_false jI,decide_eq_false zR];rfl)
           have q44:(b2 c2==44)=false:=by simp;exact fun e=>zR (dz e)
           obtain⟨cz,hcz⟩:=ap (b2 c2)
           rw[<-hcz]at hx Dm q44
           have a0s:¬ cz=59:=by simpa using Dm
           have a0q:¬ cz=44:=by simpa using q44
           clear hcz jI zR
           go_wp2_with fail
           go_meet
           case rel=>exact⟨by rw[HQ.out],rfl⟩
         case rest =>
          obtain⟨rfl,rfl⟩:=hcut
          obtain⟨x,hx⟩:=ap (t4 y2)
          obtain⟨xb,hxb⟩:=ap (bs x)
          have HX:=h_ hx
          have HXB:=h_ hxb
          rw[<-hx]at HR3
          clear hx hxb
          go_upto_if 91 with fail
          go_cut [0]from 92 to 94 (fun v wx=>v=.string xb∧wx=wc)
          case first =>
           cases sp with
           |true =>
            obtain⟨c2,q2,hyq,_,hsf⟩:=QS gF.out.symm
            obtain⟨M,hM⟩:=ap (q2.length+1)
            have a9j:yc.size=M:=by rw[Oj.out,aB,hyq,hM];rfl
            have hM1:1<=M:=by omega
            have a8E:(1:Int)<=(M:Int):=by omega
            obtain⟨rb,hrb⟩:=ap (bs q2)
            have hex:yc.extract 1 M=rb:=by rw[Oj.out,hrb,bM,hyq,hM];simp
            have hb3:=fun W=>ig q2 W (by rw[hyq,ag]at VL;omega)
            rw[<-hrb,<-hsf,<-HX.out,show S x=.string xb by rw[HXB.out]]at hb3
            have HB3:=h_ hb3
            clear hb3 hrb hM hyq hsf
            go_wp2_with (first
             |(go_at_call 61;refine(HB3.out _).mono ?_;rintro e w4 ⟨rfl,hw⟩;subst w4)
             |fail)
            go_meet
            case rel=>exact⟨rfl,rfl⟩
           |false =>
            have HQ:=h_ (show yc=xb by rw[Oj.out,HXB.out,HX.out,Wo gF.out.symm])
            go_wp2_with fail
            go_meet
            case rel=>exact⟨by rw[HQ.out],rfl⟩
          case rest =>
           obtain⟨rfl,rfl⟩:=hcut
           have hxl:x.length<=1000000:=by
            rw[HX.out]
            refine aq ?_ VL
            cases y2 with
            |nil=>exact ae _
            |cons c2 q2 =>
             show(if c2=59∨c2=44 then bz q2 else c2::q2).length<=_
             split
             ·exact aq (show(bz q2).length<=q2.length from(ct _).length_le) (fb _)
             exact ae _
           clear HX Oj gF VL
           by_cases hxn:x=[]
           ·have e1:xb.toList.isEmpty=true:=by rw[HXB.out,au,hxn];rfl
            have e2:xb.toList=[]:=by rw[HXB.out,au,hxn]
            have gW:=h_ (show R=some ⟨dd,false,[]⟩ by rw[HR3.out,if_pos hxn])
            clear hxn
            go_wp2_with (first
             |(refine Vf rfl (.tmp 5) rfl w2 b5 ⟨dd,false,[]⟩ I5.out rfl ?_)
             |(refine Ng rfl (.tmp 2) (.tmp 97) rfl w w.heap.size R0 ⟨dd,false,[]⟩ (Xm.out.below I5.out.bq) rfl rfl ?_;intro w6 i6;have I6:=h_ i6;clear i6)
             |fail)
            exact Nu rfl rfl I6.out (by rw[gW.out];rfl)
           have e1:xb.toList.isEmpty=false:=by rw[HXB.out,au];cases x <;>simp_all
           have e2:¬ xb.toList=[]:=by rw[HXB.out,au];exact hxn
           obtain⟨un,hun⟩:=ap (jy x)
           have Qc:un.length<=1000000:=by
            rw[hun]
            refine aq ?_ hxl
            unfold jy
            split
            ·have h1:(bz (x.drop 3)).length<=(x.drop 3).length:=(ct _).length_le
             rw[ai]at h1
             split
             ·exact ae _
             next d t he =>
             rw[he,ag]at h1
             split
             ·have h2:(bz t).length<=t.length:=(ct _).length_le
              omega
             exact ae _
            exact ae _
           obtain⟨uq,huq⟩:=ap (uv un)
           have gW:=h_ (show R=some ⟨dd,true,uq⟩ by rw[HR3.out,if_neg hxn,huq,hun])
           have hc1:=fun W=>AL x W (by omega)
           obtain⟨ub,hub⟩:=ap (bs un)
           rw[<-HXB.out,<-hun,show S un=.string ub by rw[hub]]at hc1
           have hc2:=fun W (hb:Below w.heap.size w W)=>yu un W (by omega) (HE.out.below hb)
           rw[<-hub,<-huq]at hc2
           have HC1:=h_ hc1
           have Iz:=h_ hc2
           have HW2:=h_ Xm.out.bq
           clear hc1 hc2 hub huq hun Qc hxn HR3
           go_upto_region 23 with(first
            |(refine mB rfl 4 (.tmp 98) (.const (.bool true)) rfl w2 b5 63 (bT ⟨dd,false,[]⟩) I5.out 1 (.bool true) rfl rfl (by show 1<3;decide) bF.2.2 rfl (bT ⟨dd,true,[]⟩) rfl ?_;intro w4 i4 _ _;have I64:=h_ i4;clear i4)
            |fail)
           go_wp2_with (first
            |(go_at_call 65;refine(HC1.out _).mono ?_;rintro e w6 ⟨rfl,hb6⟩;have I66:=h_ (I64.out.below hb6);clear hb6)
            |(go_at_call 64;refine(Iz.out _ (fJ HW2.out I66.out.bq)).mono ?_;rintro e w7 ⟨rfl,Oq⟩;have I67:=h_ (I66.out.below Oq);clear Oq)
            |(refine mB rfl 9 (.tmp 102) (.tmp 101) rfl w2 b5 63 (bT ⟨dd,true,[]⟩) I67.out 2 (S uq) rfl rfl (by show 2<3;decide) bF.1 rfl (bT ⟨dd,true,uq⟩) rfl ?_;intro w8 i8 _ _;have I68:=h_ i8;clear i8)
            |(refine Vf rfl (.tmp 5) rfl w2 b5 ⟨dd,true,uq⟩ I68.out rfl ?_)
            |(refine Ng rfl (.tmp 2) (.tmp 103) rfl w w.heap.size R0 ⟨dd,true,uq⟩ (Xm.out.below I68.out.bq) rfl rfl ?_;intro w9 i9;have I69:=h_ i9;clear i9)
            |fail)
           exact Nu rfl rfl I69.out (by rw[gW.out];rfl)
end Go.Proofs.YtmndlfglgcioeaaGreatDoor
