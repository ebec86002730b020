import Derived.Deep.CutBlock
import Derived.Test.YtagfilhbpnjhkaaGreatDoorFGWlkY
import Derived.Test.YtagfilhbpnjhkaaGreatDoorFGEntD
set_option maxRecDepth 10000
set_option maxHeartbeats 0
namespace Go.Proofs.Q
open Tryz Go.RowKit
def cJ(r:Kg):Array Z:=#[S r.delay,.bool r.has,S r.url]
abbrev R0:Kg:=⟨[],false,[]⟩
theorem AG:(prog.info? 87).map (·.size)=some 3:=Rz
theorem NG(w:H):(Instr.alloc 87 true (Value.tuple #[])).run prog w=.ok (.pointer (some ⟨w.heap.size,0,none⟩)) (w.alloc (.cells (cJ R0) 87)):=Rz
theorem X7(r:Kg):∀v∈(cJ r).toList,v.oneCell'=true:=by
 intro v a;simp only[cJ,aK,cV,or_false]at a;rcases a with rfl|rfl|rfl <;>rfl
def rfE:Option Kg->Ending
 |none=>.returned (.tuple #[.agg (cJ R0),.bool false])
 |some r=>.returned (.tuple #[.agg (cJ r),.bool true])
section
variable {ops:Array Oper} {rest:List Oper} {o:Oper} {a:Act} {w:H} {Q:Exit->Act->H->Prop}
theorem Rw(c:o.guard=none)(x y:Operand)(f:o.op=.store 87 x y)(w0:H)(b:Nat)(d r:Kg)(i:OB w0 b 87 (cJ d) w)(X:a.eval x=.pointer (some ⟨b,0,none⟩))(hy:a.eval y=.agg (cJ r))
  (K:∀e,OB w0 b 87 (cJ r) e->wpList prog ops Q rest (a.put o.dst undef) e):wpList prog ops Q (o::rest) a w :=
 Ma c 87 x y f w0 b 87 (cJ d) i 0 (cJ r).toList X hy (bW rfl) AG (X7 r) (cJ r) rfl K
theorem newR{W:H}(e:o.guard=none)(x y:Operand)(g:o.op=.store 87 x y)(r:Kg)(f:W=w.alloc (.cells (cJ R0) 87))(X:a.eval x=.pointer (some ⟨w.heap.size,0,none⟩))(hy:a.eval y=.agg (cJ r))
  (k:∀d,OB w w.heap.size 87 (cJ r) d->wpList prog ops Q rest (a.put o.dst undef) d):wpList prog ops Q (o::rest) a W :=
 jG e _ x y g (cJ r) (cJ R0) AG rfl (all_oneCell_toArray (X7 r)) f X hy λd c b=>k d (OB.of c (ag _) b)
theorem ZA(c:o.guard=none)(x:Operand)(d:o.op=.load 87 x)(w0:H)(b:Nat)(r:Kg)(i:OB w0 b 87 (cJ r) w)(X:a.eval x=.pointer (some ⟨b,0,none⟩))(K:wpList prog ops Q rest (a.put o.dst (.agg (cJ r))) w):wpList prog ops Q (o::rest) a w :=
 CF c _ x d w0 b 87 (cJ r) i _ X underlying87 rfl AG K
end
theorem RO{tmps:Array Z}{w f:H}{b:Nat}{r:Kg}{q:Bool}(I:tmps.getD 2 undef=.pointer (some ⟨b,0,none⟩))(g:tmps.getD 3 undef=.bool q)(i:OB w b 87 (cJ r) f){R:Option Kg}(h:rfE R=.returned (.tuple #[.agg (cJ r),.bool q])) :
  bodyPost prog f55 (λe k=>e=rfE R/\r7 w k) Exit.ret {tmps:=tmps,defers:=[]} f:=by
 have c:tmps[2]?.getD undef=.pointer (some ⟨b,0,none⟩):=by simpa using I
 have d:tmps[3]?.getD undef=.bool q:=by simpa using g
 have j:=i.load (P:=prog) 87 _ underlying87 rfl AG;refine bodyPost_ret (v:=.tuple #[.agg (cJ r),.bool q]) ?_ rfl ⟨h.symm,i.bL⟩;simp[results,results55,asAddr,c,d,j]
theorem Hd(p:UInt8->Bool):∀(l:O) (k:Nat) (_:k<(l.takeWhile p).length) (I:k<l.length),p l[k]=true
 | [],k,h,I=>absurd I (cL _)
 |x::r,k,h,I=>by
  cases X:p x with
  |false=>rw[bI (by rw[X];simp)]at h;exact absurd h (cL _)
  |true =>
   rw[bJ X]at h;cases k with
   |zero=>exact X
   |succ k=>exact Hd p r k (by simpa using h) (by simpa using I)
theorem b7y(p:UInt8->Bool):∀(l:O) (h:(l.takeWhile p).length<l.length),p l[(l.takeWhile p).length]=false
 | [],h=>absurd h (cL _)
 |x::r,h=>by
  cases X:p x with
  |false =>
   have e:(x::r).takeWhile p=[]:=bI (by rw[X];simp);simp only[e,aO,gZ,X]
  |true =>
   have e:(x::r).takeWhile p=x::r.takeWhile p:=bJ X;have I:(r.takeWhile p).length<r.length:=by rw[e]at h;simpa using h
   have c:=b7y p r I;simp only[e,cz,b1m];exact c
theorem wT(p:UInt8->Bool):∀l:O,l.drop (l.takeWhile p).length=l.dropWhile p
 | []=>rfl
 |c::r=>by
  cases h:p c with
  |true=>rw[bJ h,aQ h,cz,Ej,wT p r]
  |false=>rw[bI (by rw[h];simp),aX (by rw[h];simp)];rfl
theorem DT(p:UInt8->Bool):∀l:O,l.take (l.takeWhile p).length=l.takeWhile p
 | []=>rfl
 |c::r=>by
  cases h:p c with
  |true=>rw[bJ h,cz,dM,DT p r]
  |false=>rw[bI (by rw[h];simp)];rfl
theorem Jh(x:UInt8):pG x=true ↔ 48<=G x/\G x<=57:=by unfold pG;rw[gx]
theorem OL(x:UInt8)(W:H)(h:pG x=true):∃d:Int,0<=d/\pa prog 93 #[.int .u8 (G x),.int .i64 10] W (.int .i64 d):=by
 have c:=(Jh x).1 h;have hd:=dm (G x) 10 W ⟨(gH x).1,(gH x).2⟩ P8;rw[uu.1 c]at hd;exact⟨G x-48,M0,hd⟩
theorem OM(x:UInt8)(W:H)(h:pG x=false):pa prog 93 #[.int .u8 (G x),.int .i64 10] W (.int .i64 (-1)):=by
 have c:¬(48<=G x/\G x<=57):=λhh=>by rw[(Jh x).2 hh]at h;cases h
 have hd:=dm (G x) 10 W ⟨(gH x).1,(gH x).2⟩ P8;rw[uu.2 c]at hd;exact hd
theorem a5E(u:O)(w:H):bF prog 94 #[.string (E u),.string (E [48])] w (S (u.dropWhile z48)):=by
 have h116:(prog.info? (laysTL_ren.t 116)).map (λi=>(i.zero,i.size))=some (some (.agg (Array.replicate 256 (.bool false))),256):=Rz;have h:=Any.strings_TrimLeft_laid laysTL h116 (E u) (E [48]) w P8 (ascii_of_all P8);rw[show(E u).data.toList=u from cW u,show(E [48]).data.toList=[48]from cW _]at h;refine h.m ?_;rintro e w'⟨rfl,U⟩;refine⟨?_,U⟩
 have c:Lib.trimLeftS u [48]=u.dropWhile z48:=by
  unfold Lib.trimLeftS
  congr 1
  funext x
  unfold z48;by_cases X:x=48 <;>simp[X]
 rw[c];rfl
theorem Uv(l:O):Lib.hasPrefix l [46]=decide (l.head? = some 46):=by
 cases l with
 |nil=>rfl
 |cons x r =>
  show((46==x)&&true)=_;rw[nk,oI];by_cases h:x=46
  ·subst h;rfl
  rw[gh (by simpa using h)];simp only[beq_eq_false_iff_ne];exact λe=>h e.symm

def RY(y:O):Bool:=match y with
 | []=>false
 |c::_=>decide (c=59)||decide (c=44)
theorem Wf{y:O}(h:RY y=true):∃c r,y=c::r/\(c=59\/c=44)/\xH y=bT r:=by
 cases y with
 |nil=>cases h
 |cons c r =>
  have I:c=59\/c=44:=by simpa[RY]using h
  refine⟨c,r,rfl,I,?_⟩;show(if c=59\/c=44 then bT r else c::r)=_;rw[ge I]
theorem a0O{y:O}(h:RY y=false):xH y=y:=by
 cases y with
 |nil=>rfl
 |cons c r =>
  have I:¬(c=59\/c=44):=by simpa[RY]using h
  show(if c=59\/c=44 then bT r else c::r)=_;rw[gc I]
theorem p8(s:O)(w:H)(hL:s.length<=1000000)(hE:Env w):Calls prog 55 #[.string (E s)] w λe w'=>e=rfE (Dx s)/\r7 w w':=by
 obtain⟨sb,hsb,z,hz⟩:=ac (E s) (bT s);have hzl:z.length<=1000000:=by rw[hz];exact am (show(bT s).length<=s.length from(ce _).length_le) hL
 obtain⟨zb,hzb⟩:=V (E z);have hb1:=λW=>js s W M0;rw[<-hsb,<-hz,show S z=.string zb by rw[hzb]]at hb1;have HB1:=F hb1;obtain⟨R,hR⟩:=V (Dx s);have HR:=F (show R=rfG z by rw[hR,hz];rfl);rw[<-hsb,<-hR];have HE:=F hE;obtain⟨N,hN⟩:=V (z.length);have hsz:zb.size=N:=by rw[hzb,aF,hN]
 have HN:=F hN;have Xc:=F hzb;rw[<-hN]at hzl;obtain⟨D,hD⟩:=V ((z.takeWhile pG).length);have hDN:D<=N:=by rw[hD,hN];exact(xS _).length_le
 have HD:=F hD;clear hb1 hz hR hE hN hzb hD hsb hL;go_enter func55,ntmps55
 go_upto_region 1 with(refine aM rfl 87 rfl _ _ (NG _) ?_)
 have h4:=OB.fresh w 87 (cJ R0);obtain⟨w1,hw1⟩:=V (w.alloc (.cells (cJ R0) 87));rw[<-hw1]at h4⊢;have H4:=F h4;clear h4 hw1
 go_upto_block 0 with(first
  |(go_at_call 92;refine(HB1.o _).e ?_))
 clear HB1
 go_cut [4]from 8 to 20 (λkv wx=>kv=.int .i64 (D:Int)/\wx=w1)
 case first =>
  go_wp2_with fail
  go_loopw [4] (λiv wr=>∃k:Nat,k<=D/\iv=.int .i64 k/\wr=w1) (λi _=>D-(intOf i).toNat)
  exact⟨0,aL _,rfl,rfl⟩
  obtain⟨k,hk,rfl,hw⟩:=hrel;subst wr;by_cases hlt:k<D
  ·have j:k<z.length:=by have:=HN.o;omega
   have P:k<zb.size:=M0;have X:=cy Xc.o P j;obtain⟨d,hd0,g⟩:=OL z[k] w1 (Hd pG z k (by rw[<-HD.o];exact hlt) j);obtain⟨c,hc⟩:=V (G z[k]);rw[<-hc]at X g;have Ez:=F g;clear g hc
   go_wp2_with(go_at_call 93;refine(Ez.o).e ?_)
   go_roundw
   exact⟨k+1,M0,by go_num,by trivial⟩
   exact aa
  obtain rfl:k=D:=M0;by_cases hkN:k<N
  ·have j:k<z.length:=by have:=HN.o;omega
   have P:k<zb.size:=M0;have X:=cy Xc.o P j
   have hst:pG z[k]=false:=by
    have h:=b7y pG z (by rw[<-HD.o];exact j);simp only[<-HD.o]at h;exact h
   have g:=OM z[k] w1 hst;obtain⟨c,hc⟩:=V (G z[k]);rw[<-hc]at X g;have Ez:=F g;clear g hc hst
   go_wp2_with(go_at_call 93;refine(Ez.o).e ?_)
   go_meet
   exact⟨rfl,rfl⟩
  go_wp2_with fail
  go_meet
  exact⟨rfl,rfl⟩
 case rest =>
  obtain⟨rfl,rfl⟩:=hcut;obtain⟨u,HU⟩:=ey (z.takeWhile pG);have huD:D=u.length:=by rw[HU.o];exact HD.o
  have HDR:=F (show z.drop D=z.dropWhile pG by rw[HD.o];exact wT pG z);obtain⟨bad,hbad⟩:∃b:Bool,b=decide (D=0/\z.head? ≠ some 46):=⟨_,rfl⟩;have HBAD:=F hbad;have HUD:=F huD;clear hbad huD
  go_upto_region 5 with fail
  go_cut [27]from 21 to 26 (λq wx=>q=.bool bad/\wx=wc)
  case first =>
   by_cases h0:D=0
   ·have hp:=λW=>mE z [46] W
    rw[<-Xc.o,Uv]at hp;obtain⟨q,n⟩:=V (decide (z.head? = some 46));rw[<-n]at hp;have HP:=fo (∀W,bP prog 83 #[.string zb,.string ⟨#[46]⟩] W (.bool q)) hp;have l:=F (show bad=!q by rw[HBAD.o,n,<-decide_not,decide_eq_decide];exact⟨λh=>h.2,λh=>⟨h0,h⟩⟩);have qD:(((D:Nat):Int)==0)=true:=by simp[h0]
    clear hp n h0
    go_wp2_with(go_at_call 83;refine(HP.o _).e ?_)
    go_meet
    exact⟨by rw[l.o],rfl⟩
   have l:=F (show bad=false by rw[HBAD.o,gz];exact λh=>h0 h.1);have qD:(((D:Nat):Int)==0)=false:=by simp[h0]
   have nD:¬((D:Nat):Int)=0:=M0;clear h0;go_wp2_with fail
   go_meet
   exact⟨by rw[l.o],rfl⟩
  case rest =>
   obtain⟨rfl,rfl⟩:=hcut;cases bad with
   |true =>
    have iT:=F (show R=none by
     have U:=HBAD.o;rw[eq_comm,gx]at U;rw[HR.o];unfold rfG;rw[ge ⟨by rw[<-HU.o];exact az (by rw[<-HUD.o];exact U.1),U.2⟩])
    go_wp2_with(refine Rw rfl 2 28 rfl w w.heap.size R0 R0 H4.o rfl rfl ?_;intro w5 i5;have I5:=F i5;clear i5)
    exact RO rfl rfl I5.o (by rw[iT.o];rfl)
   |false =>
    have J:=F (show R=rfT (mz u) ((z.drop D).dropWhile pd) by
     have U:=HBAD.o;rw[eq_comm,gz]at U;rw[HR.o];unfold rfG;rw[gc (λh=>U ⟨by rw[HUD.o,HU.o,h.1];rfl,h.2⟩),<-HU.o,HDR.o])
    clear HR HBAD;obtain⟨tb,htb⟩:=V (E u);have hex:zb.extract 0 D=tb:=by rw[Xc.o,htb,cd,HU.o,HD.o];simp[DT]
    obtain⟨dl,hdl⟩:=V (u.dropWhile z48);have htl:=λW=>a5E u W;rw[<-htb,<-hdl]at htl;have zF:=fo (∀W,bF prog 94 #[.string tb,.string ⟨#[48]⟩] W (S dl)) htl;have WT:=F (show mz u=if dl=[]then [48]else dl by rw[hdl];rfl);clear htb hdl htl
    go_upto_region 8 with(first|(go_at_call 94;refine(zF.o _).k λw2 HB2=>?_)|(refine aM rfl 87 rfl _ _ (NG _) ?_)|(refine newR rfl 5 33 rfl ⟨dl,false,[]⟩ rfl rfl rfl ?_;intro w3 i3;have I3:=F i3;clear i3))
    have H42:=F<|H4.o.below HB2.o;obtain⟨b5,gD⟩:=ey (w2.heap.size);rw[<-gD.o]at I3⊢;obtain⟨db,hdb⟩:=V (E dl);have c0:w3.cell? ⟨b5,0,none⟩=some (.string db):=by rw[hdb];exact I3.o.aE rfl
    have HDB:=F hdb;clear hdb hex zF HB2 H4
    go_upto_if 36 with fail
    obtain⟨em,hem⟩:∃b:Bool,b=db.toList.isEmpty:=⟨_,rfl⟩;rw[<-hem];have UK:=F (show em=decide (dl=[]) by rw[hem,HDB.o,aB];cases dl <;>rfl);clear hem
    go_cut []from 37 to 37 (λwx=>Hid (OB w2 b5 87 (cJ ⟨mz u,false,[]⟩) wx))
    case first =>
     clear c0;cases em with
     |true =>
      have HF:=F (show mz u=[48] by rw[WT.o,ge (of_decide_eq_true UK.o.symm)])
      go_wp2_with(refine ox rfl 9 37 (.const (.string ⟨#[48]⟩)) rfl w2 b5 87 (cJ ⟨dl,false,[]⟩) I3.o 0 (S [48]) rfl rfl (by show 0<3;decide) bY.1 rfl (cJ ⟨[48],false,[]⟩) rfl ?_;intro C i4 _ _;have I4:=F i4;clear i4)
      go_meet
      exact F (by rw[HF.o];exact I4.o)
     |false =>
      have HF:=F (show mz u=dl by rw[WT.o,gc (of_decide_eq_false UK.o.symm)]);go_wp2_with fail
      go_meet
      exact F (by rw[HF.o];exact I3.o)
    case rest =>
     obtain⟨L,hdd⟩:=V (mz u);rw[<-hdd]at J hcut;obtain⟨v,hv⟩:=V (z.drop D);have HV:=F hv;rw[<-hv]at J;obtain⟨E',hE⟩:=V (D+(v.takeWhile pd).length)
     have hEN:E'<=N:=by
      have Y:(v.takeWhile pd).length<=v.length:=(xS _).length_le;have I:v.length=N-D:=by rw[hv,aj,HN.o]
      omega
     have hDE:D<=E':=M0;have HEE:=F hE;have I5:=hcut;clear hdd hv hE hcut c0 HDB WT I3 HUD HU HDR
     go_upto_block 2 with fail
     go_cut [4]from 38 to 56 (λkv wx=>kv=.int .i64 (E':Int)/\wx=wc)
     case first =>
      go_wp2_with fail
      go_loopw [4] (λiv wr=>∃k:Nat,D<=k/\k<=E'/\iv=.int .i64 k/\wr=wc) (λi _=>E'-(intOf i).toNat)
      exact⟨D,ag _,hDE,rfl,rfl⟩
      obtain⟨k,hDk,hk,rfl,hw⟩:=hrel;subst wr;have hvN:v.length=N-D:=by rw[HV.o,aj,HN.o]
      have hkv:∀(Y:k<z.length) (I:k-D<v.length),v[k-D]=z[k]:=λY I=>by
       simp only[HV.o,M7];simp only[show D+(k-D)=k from M0]
      by_cases hlt:k<E'
      ·have j:k<z.length:=by have:=HN.o;omega
       have P:k<zb.size:=M0;have X:=cy Xc.o P j;have B:k-D<v.length:=M0;have n:=Hd pd v (k-D) (by have:=HEE.o;omega) B;rw[hkv j B]at n;by_cases p:z[k]=46
       ·rw[p,show G 46=46 from rfl]at X
        clear n p hkv hvN B;go_wp2_with fail;go_roundw
        exact⟨k+1,M0,M0,by go_num,by trivial⟩
        exact aa
       have hd:pG z[k]=true:=by
        unfold pd at n;rw[gh p]at n;exact n
       obtain⟨d,hd0,g⟩:=OL z[k] wc hd;have q46:(G z[k]==46)=false:=by simp;exact λe=>p (eX e)
       obtain⟨c,hc⟩:=V (G z[k]);rw[<-hc]at X g q46;have b0m:¬c=46:=by simpa using q46
       have Ez:=F g;clear g hc hd n p hkv hvN B
       go_wp2_with(go_at_call 93;refine(Ez.o).e ?_)
       go_roundw
       exact⟨k+1,M0,M0,by go_num,by trivial⟩
       exact aa
      obtain rfl:k=E':=M0;by_cases hkN:k<N
      ·have j:k<z.length:=by have:=HN.o;omega
       have P:k<zb.size:=M0;have X:=cy Xc.o P j;have B:k-D<v.length:=M0;have hm:(v.takeWhile pd).length=k-D:=by have:=HEE.o;omega
       have hst:pd z[k]=false:=by
        have h:=b7y pd v (by rw[hm];exact B);simp only[hm]at h;rw[hkv j B]at h;exact h
       have I:=Bc.1 (show(decide (z[k]=46)||pG z[k])=false from hst);have p:¬z[k]=46:=of_decide_eq_false I.1;have g:=OM z[k] wc I.2;have q46:(G z[k]==46)=false:=by simp;exact λe=>p (eX e)
       obtain⟨c,hc⟩:=V (G z[k]);rw[<-hc]at X g q46;have b0m:¬c=46:=by simpa using q46
       have Ez:=F g;clear g hc I hst p hkv hvN B hm
       go_wp2_with(go_at_call 93;refine(Ez.o).e ?_)
       go_meet
       exact⟨rfl,rfl⟩
      clear hkv hvN;go_wp2_with fail
      go_meet
      exact⟨rfl,rfl⟩
     case rest =>
      obtain⟨rfl,rfl⟩:=hcut;obtain⟨y,hy⟩:=V (v.dropWhile pd)
      have hyd:y=z.drop E':=by
       rw[hy,<-wT pd v,HEE.o];generalize (v.takeWhile pd).length=m;rw[HV.o,qg]
      rw[<-hy]at J;obtain⟨yb,hyb⟩:=V (E y);have hex:zb.extract E' N=yb:=by rw[Xc.o,hyb,hyd,cd,aP (by rw[aj,HN.o];exact ag _)]
      have hyl:y.length<=1000000:=by rw[hyd,aj,<-HN.o];omega
      have Xb:=F hyb;clear hy hyd hyb HV HEE Xc;cases y with
      |nil =>
       have e1:yb.toList.isEmpty=true:=by rw[Xb.o,aB];rfl
       have e2:yb.toList=[]:=by rw[Xb.o,aB]
       have iT:=fo (R=some ⟨L,false,[]⟩) J.o
       go_wp2_with(first|(refine ZA rfl 5 rfl w2 b5 ⟨L,false,[]⟩ I5.o rfl ?_)|(refine Rw rfl 2 62 rfl w w.heap.size R0 ⟨L,false,[]⟩ (H42.o.below I5.o.bL) rfl rfl ?_;intro w6 i6;have I6:=F i6;clear i6))
       exact RO rfl rfl I6.o (by rw[iT.o];rfl)
      |cons c q =>
       have e1:yb.toList.isEmpty=false:=by rw[Xb.o,aB];rfl
       have e2:¬yb.toList=[]:=by rw[Xb.o,aB];simp
       have y0:0<yb.size:=by rw[Xb.o,aF];simp
       have X:=cy Xb.o y0 Oc;rw[show G (c::q)[0]=G c from rfl]at X;obtain⟨bad,hbad⟩:∃b:Bool,b=decide (mw c=false/\c≠59/\c≠44):=⟨_,rfl⟩;have HBAD:=F hbad;clear hbad
       go_upto_region 15 with fail
       clear hex
       go_cut [76]from 63 to 75 (λq wx=>q=.bool bad/\wx=wc)
       case first =>
        have f:=λW=>fh (G c) W;rw[show iW (G c)=mw c from rfl]at f;cases n:mw c with
        |true =>
         rw[n]at f;have l:=F (show bad=false by rw[HBAD.o,gz];exact λh=>by rw[n]at h;cases h.1);obtain⟨cz,r⟩:=V (G c);rw[<-r]at X f;have lZ:=F f;clear f r n
         go_wp2_with(go_at_call 34;refine(lZ.o _).e ?_)
         go_meet
         exact⟨by rw[l.o],rfl⟩
        |false =>
         rw[n]at f;by_cases kR:c=59
         ·have l:=F (show bad=false by rw[HBAD.o,gz];exact λh=>h.2.1 kR)
          rw[kR,show G 59=59 from rfl]at X f;have lZ:=F f;clear f n kR
          go_wp2_with(go_at_call 34;refine(lZ.o _).e ?_)
          go_meet
          exact⟨by rw[l.o],rfl⟩
         by_cases Ad:c=44
         ·have l:=F (show bad=false by rw[HBAD.o,gz];exact λh=>h.2.2 Ad)
          rw[Ad,show G 44=44 from rfl]at X f;have lZ:=F f;clear f n kR Ad
          go_wp2_with(go_at_call 34;refine(lZ.o _).e ?_)
          go_meet
          exact⟨by rw[l.o],rfl⟩
         have l:=F (show bad=true by rw[HBAD.o,gx];exact⟨n,kR,Ad⟩);have GG:(G c==59)=false:=by simp;exact λe=>kR (eX e)
         have q44:(G c==44)=false:=by simp;exact λe=>Ad (eX e)
         obtain⟨cz,r⟩:=V (G c);rw[<-r]at X f GG q44;have a5e:¬cz=59:=by simpa using GG
         have a5c:¬cz=44:=by simpa using q44
         have n59:(cz != 59)=true:=by simpa using a5e
         have n44:(cz != 44)=true:=by simpa using a5c
         have lZ:=F f;clear f r n kR Ad
         go_wp2_with(go_at_call 34;refine(lZ.o _).e ?_)
         go_meet
         exact⟨by rw[l.o],rfl⟩
       case rest =>
        obtain⟨rfl,rfl⟩:=hcut;cases bad with
        |true =>
         have iT:=F (show R=none by
          have U:=HBAD.o;rw[eq_comm,gx]at U;rw[J.o];unfold rfT;dsimp only;rw[ge U])
         go_wp2_with(refine Rw rfl 2 77 rfl w w.heap.size R0 R0 (H42.o.below I5.o.bL) rfl rfl ?_;intro w6 i6;have I6:=F i6;clear i6)
         exact RO rfl rfl I6.o (by rw[iT.o];rfl)
        |false =>
         obtain⟨y2,hy2⟩:=V (bT (c::q))
         have HR3:=F (show R=if xH y2=[]then some ⟨L,false,[]⟩else some ⟨L,true,xI (lW (xH y2))⟩ by
          have U:=HBAD.o;rw[eq_comm,gz]at U;rw[J.o];unfold rfT;dsimp only;rw[gc U,hy2])
         obtain⟨yc,hyc⟩:=V (E y2);have hb2:=λW=>js (c::q) W M0;rw[<-Xb.o,<-hy2,show S y2=.string yc by rw[hyc]]at hb2;have HB2:=F hb2;have a0d:y2.length<=1000000:=by rw[hy2];exact am (show(bT (c::q)).length<=(c::q).length from(ce _).length_le) hyl
         have S6:=F hyc;obtain⟨sp,hsp⟩:=V (RY y2);have ji:=F hsp;clear hsp hyc hb2 hy2 Xb HBAD J e1 e2 X hyl
         go_upto_region 18 with(go_at_call 92;refine(HB2.o _).e ?_)
         clear HB2
         go_cut [91]from 80 to 90 (λq wx=>q=.bool sp/\wx=wc)
         case first =>
          cases y2 with
          |nil =>
           have e1:yc.toList.isEmpty=true:=by rw[S6.o,aB];rfl
           have e2:yc.toList=[]:=by rw[S6.o,aB]
           go_wp2_with fail
           go_meet
           exact⟨by rw[ji.o];rfl,rfl⟩
          |cons c2 q2 =>
           have e1:yc.toList.isEmpty=false:=by rw[S6.o,aB];rfl
           have e2:¬yc.toList=[]:=by rw[S6.o,aB];simp
           have yc0:0<yc.size:=by rw[S6.o,aF];simp
           have X:=cy S6.o yc0 Oc;rw[show G (c2::q2)[0]=G c2 from rfl]at X;by_cases kR:c2=59
           ·have l:=F (show sp=true by rw[ji.o,kR];rfl)
            rw[kR,show G 59=59 from rfl]at X;clear kR;go_wp2_with fail
            go_meet
            exact⟨by rw[l.o],rfl⟩
           have GG:(G c2==59)=false:=by simp;exact λe=>kR (eX e)
           by_cases Ad:c2=44
           ·have l:=F (show sp=true by rw[ji.o,Ad];rfl)
            rw[Ad,show G 44=44 from rfl]at X;clear kR Ad GG;go_wp2_with fail
            go_meet
            exact⟨by rw[l.o],rfl⟩
           have l:=F (show sp=false by rw[ji.o];show(decide (c2=59)||decide (c2=44))=false;rw[gh kR,gh Ad];rfl);have q44:(G c2==44)=false:=by simp;exact λe=>Ad (eX e)
           obtain⟨cz,r⟩:=V (G c2);rw[<-r]at X GG q44;have a5e:¬cz=59:=by simpa using GG
           have a5c:¬cz=44:=by simpa using q44
           clear r kR Ad;go_wp2_with fail
           go_meet
           exact⟨by rw[l.o],rfl⟩
         case rest =>
          obtain⟨rfl,rfl⟩:=hcut;obtain⟨x,X⟩:=V (xH y2);obtain⟨xb,K⟩:=ey (E x);have HX:=F X;rw[<-X]at HR3;clear X
          go_upto_if 91 with fail
          go_cut [0]from 92 to 94 (λv wx=>v=.string xb/\wx=wc)
          case first =>
           cases sp with
           |true =>
            obtain⟨c2,q2,hyq,_,hsf⟩:=Wf ji.o.symm;obtain⟨M,hM⟩:=V (q2.length+1);have b42:yc.size=M:=by rw[S6.o,aF,hyq,hM];rfl
            have hM1:1<=M:=M0;have b4l:(1:Int)<=(M:Int):=M0;obtain⟨rb,hrb⟩:=V (E q2);have hex:yc.extract 1 M=rb:=by rw[S6.o,hrb,cd,hyq,hM];simp
            have hb3:=λW=>js q2 W (by rw[hyq,cz]at a0d;omega);rw[<-hrb,<-hsf,<-HX.o,show S x=.string xb by rw[K.o]]at hb3;have HB3:=F hb3;clear hb3 hrb hM hyq hsf
            go_wp2_with(go_at_call 92;refine(HB3.o _).e ?_)
            go_meet
            exact⟨rfl,rfl⟩
           |false =>
            have l:=F (show yc=xb by rw[S6.o,K.o,HX.o,a0O ji.o.symm]);go_wp2_with fail
            go_meet
            exact⟨by rw[l.o],rfl⟩
          case rest =>
           obtain⟨rfl,rfl⟩:=hcut
           have hxl:x.length<=1000000:=by
            rw[HX.o];refine am ?_ a0d;cases y2 with
            |nil=>exact ag _
            |cons c2 q2 =>
             show(if c2=59\/c2=44 then bT q2 else c2::q2).length<=_
             split
             ·exact am (show(bT q2).length<=q2.length from(ce _).length_le) (gQ _)
             exact ag _
           clear HX S6 ji a0d;by_cases T:x=[]
           ·have e1:xb.toList.isEmpty=true:=by rw[K.o,aB,T];rfl
            have e2:xb.toList=[]:=by rw[K.o,aB,T]
            have iT:=F (show R=some ⟨L,false,[]⟩ by rw[HR3.o,ge T]);clear T
            go_wp2_with(first|(refine ZA rfl 5 rfl w2 b5 ⟨L,false,[]⟩ I5.o rfl ?_)|(refine Rw rfl 2 97 rfl w w.heap.size R0 ⟨L,false,[]⟩ (H42.o.below I5.o.bL) rfl rfl ?_;intro w6 i6;have I6:=F i6;clear i6))
            exact RO rfl rfl I6.o (by rw[iT.o];rfl)
           have e1:xb.toList.isEmpty=false:=by rw[K.o,aB];cases x <;>simp_all
           have e2:¬xb.toList=[]:=by rw[K.o,aB];exact T
           obtain⟨un,hun⟩:=V (lW x)
           have Nf:un.length<=1000000:=by
            rw[hun];refine am ?_ hxl;unfold lW
            split
            ·have Y:(bT (x.drop 3)).length<=(x.drop 3).length:=(ce _).length_le
             rw[aj]at Y
             split
             ·exact ag _
             next d t he =>
             rw[he,cz]at Y
             split
             ·have I:(bT t).length<=t.length:=(ce _).length_le
              omega
             exact ag _
            exact ag _
           obtain⟨uq,huq⟩:=V (xI un);have iT:=F (show R=some ⟨L,true,uq⟩ by rw[HR3.o,gc T,huq,hun]);have hc1:=λW=>D8 x W M0;obtain⟨ub,hub⟩:=V (E un);rw[<-K.o,<-hun,show S un=.string ub by rw[hub]]at hc1;have hc2:=λW (U:r7 w W)=>Bb un W M0 (HE.o.below U);rw[<-hub,<-huq]at hc2;obtain⟨rE,Ei,HW2⟩:=cZ hc1 hc2 H42.o.bL;clear hc1 hc2 hub huq hun Nf T HR3
           go_upto_region 23 with(refine ox rfl 4 98 (.const (.bool true)) rfl w2 b5 87 (cJ ⟨L,false,[]⟩) I5.o 1 (.bool true) rfl rfl (by show 1<3;decide) bY.2.2 rfl (cJ ⟨L,true,[]⟩) rfl ?_;intro C i4 _ _;have I64:=F i4;clear i4)
           go_wp2_with(first|(go_at_call 96;refine(rE.o _).k λw6 hb6=>?_;have I66:=F<|I64.o.below hb6.o;clear hb6)|(go_at_call 95;refine(Ei.o _ (dw HW2.o I66.o.bL)).k λw7 Em=>?_;have I67:=F<|I66.o.below Em.o;clear Em)|(refine ox rfl 9 102 101 rfl w2 b5 87 (cJ ⟨L,true,[]⟩) I67.o 2 (S uq) rfl rfl (by show 2<3;decide) bY.1 rfl (cJ ⟨L,true,uq⟩) rfl ?_;intro w8 i8 _ _;have I68:=F i8;clear i8)|(refine ZA rfl 5 rfl w2 b5 ⟨L,true,uq⟩ I68.o rfl ?_)|(refine Rw rfl 2 103 rfl w w.heap.size R0 ⟨L,true,uq⟩ (H42.o.below I68.o.bL) rfl rfl ?_;intro w9 i9;have I69:=F i9;clear i9))
           exact RO rfl rfl I69.o (by rw[iT.o];rfl)
