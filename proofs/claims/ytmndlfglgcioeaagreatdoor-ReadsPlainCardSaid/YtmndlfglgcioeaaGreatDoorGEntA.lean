/- EntA EntB: joined. -/
import Derived.Test.YtmndlfglgcioeaaGreatDoorGTextD
import Derived.Test.YtmndlfglgcioeaaGreatDoorGTextA
import Derived.Test.YtmndlfglgcioeaaGreatDoorGEmB
set_option maxHeartbeats 40000000
namespace Go.Proofs.YtmndlfglgcioeaaGreatDoor
open Go.RowKit
set_option maxRecDepth 10000
def zN:List (Bytes×Bytes):=[([97,109,112],[38]),([65,77,80],[38]),([108,116],[60]),([76,84],[60]),([103,116],[62]),([71,84],[62]),([113,117,111,116],[34]),([81,85,79,84],[34]),([110,98,115,112],[194,160]),([115,104,121],[194,173]),([110,111,116],[194,172]),([114,101,103],[194,174]),([99,111,112,121],[194,169]),([112,97,114,97],[194,182]),([115,101,99,116],[194,167]),([121,101,110],[194,165]),([100,101,103],[194,176]),([116,105,109,101,115],[195,151]),([101,97,99,117,116,101],[195,169]),([111,117,109,108],[195,182]),([115,122,108,105,103],[195,159])]
def qd:List (Bytes×Bytes):=[([110,111,116,105,110],[226,136,137]),([110,118,108,116],[60,226,131,146]),([110,118,103,116],[62,226,131,146]),([122,119,110,106],[226,128,140]),([122,119,106],[226,128,141]),([90,101,114,111,87,105,100,116,104,83,112,97,99,101],[226,128,139]),([78,111,66,114,101,97,107],[226,129,160]),([102,106,108,105,103],[102,106]),([99,111,112,121,115,114],[226,132,151]),([116,105,109,101,115,98,97,114],[226,168,177])]
def l8:List (Bytes×Nat):=[([97,112,111,115],39),([99,111,108,111,110],58),([115,111,108],47),([98,115,111,108],92),([113,117,101,115,116],63),([110,117,109],35),([112,101,114,99,110,116],37),([99,111,109,109,97,116],64),([101,113,117,97,108,115],61),([112,108,117,115],43),([99,111,109,109,97],44),([112,101,114,105,111,100],46),([115,101,109,105],59),([101,120,99,108],33),([100,111,108,108,97,114],36),([97,115,116],42),([108,111,119,98,97,114],95),([103,114,97,118,101],96),([72,97,116],94),([108,112,97,114],40),([114,112,97,114],41),([108,115,113,98],91),([114,115,113,98],93),([108,99,117,98],123),([114,99,117,98],125),([118,101,114,98,97,114],124),([84,97,98],9),([78,101,119,76,105,110,101],10)]
def wG:List Nat:=[8364,129,8218,402,8222,8230,8224,8225,710,8240,352,8249,338,141,381,143,144,8216,8217,8220,8221,8226,8211,8212,732,8482,353,8250,339,157,382,376]
theorem l9 {P:UInt8->Prop} (h:∀ k:Fin 256,P (UInt8.ofNat k.val)) (x:UInt8):P x:=by
 have:=h ⟨x.toNat,x.toNat_lt⟩
 rw[cC]at this
 exact this
def look {α:Type}:List (Bytes×α)->Bytes->Option α
 | [],_=>none
 |p::l,s=>if s=p.1 then some p.2 else look l s
def s5 (s:Bytes):Option Bytes:=look zN s
def nK (s:Bytes):Nat:=(look l8 s).getD 0
def gN (s:Bytes):Option Bytes:=if nK s≠0 then some (enc (nK s:Int))else look qd s
def iM (s:Bytes):Bytes:=if s.getLast? = some 59 then s.dropLast else s
def et (s:Bytes):Option Bytes:=match s5 (iM s)with
 |some t=>some t
 |none=>if s.getLast? = some 59 then gN (iM s)else none
def pJ (n:Int):Int:=if 128<=n∧n<=159 then((wG.getD (n-128).toNat 0:Nat):Int)else n
def fD (n:Int):Bytes:=if n=0 then enc 65533 else enc (pJ n)
def rA (n:Int):Int:=if n<=1114112 then n else 1114112
def iY (base:Int):Int->Bytes->Int×Nat
 |n,[]=>(n,0)
 |n,x::r=>if eF (b2 x) base<0 then(n,0)else((iY base (rA (n*base+eF (b2 x) base)) r).1,(iY base (rA (n*base+eF (b2 x) base)) r).2+1)
def xK (s:Bytes):Bool:=decide (s[2]? = some 120∨s[2]? = some 88)
def Fe (s:Bytes) (b:Int) (f:Nat):Bytes×Nat :=
 if(iY b 0 (s.drop f)).2=0 then([38],1)else(fD (iY b 0 (s.drop f)).1,f+(iY b 0 (s.drop f)).2+(if s[f+(iY b 0 (s.drop f)).2]? = some 59 then 1 else 0))
def tH (s:Bytes):Bytes×Nat:=if xK s=true then Fe s 16 3 else Fe s 10 2
def vF (c:UInt8):Bool:=decide ((65<=b2 c∧b2 c<=90)∨(97<=b2 c∧b2 c<=122))||decide (48<=b2 c∧b2 c<=57)||decide (c=61)
def MS (s:Bytes) (n:Nat):Bool:=decide (s[n]? ≠ some 59)&&(match s[n+1]? with|some c=>vF c|none=>false)
def gM (s:Bytes):Nat->Bytes×Nat
 |0=>([38],1)
 |n+1=>match et ((s.drop 1).take (n+1))with
  |none=>gM s n
  |some t=>if MS s (n+1)=true then([38],1)else(t,n+2)
def fH (s:Bytes):Bytes×Nat:=if Lib.hasPrefix s [38,35]=true then tH s else gM s (min 15 (s.length-1))
def na (x:UInt8):Bool:=x != 38
def sR:Nat->Bytes->Bytes
 |0,_=>[]
 |k+1,s=>s.takeWhile na++(if s.dropWhile na=[]then []else(fH (s.dropWhile na)).1++sR k ((s.dropWhile na).drop (fH (s.dropWhile na)).2))
def fw (s:Bytes):Bytes:=sR s.length s
theorem px {α:Type} {l:List (Bytes×α)} {s:Bytes} {t:α} (h:look l s=some t):(s,t)∈l:=by
 induction l with
 |nil=>cases h
 |cons p l ih =>
  unfold look at h
  split at h
  ·next e=>cases h;subst e;exact List.mem_cons_self
  exact ej _ (ih h)
theorem Fo (s:Bytes):∀ n,1<=(gM s n).2∧(gM s n).2<=n+1
 |0=>⟨ae _,ae _⟩
 |n+1=>by
  have ih:=Fo s n
  unfold gM
  split
  ·omega
  split
  ·exact⟨ae _,by omega⟩
  exact⟨by show 1<=n+2;omega,ae _⟩
theorem SM (base:Int):∀ (r:Bytes) (n:Int),(iY base n r).2<=r.length
 | [],n=>ae _
 |x::r,n=>by
  have ih:=SM base r (rA (n*base+eF (b2 x) base))
  unfold iY
  split
  ·exact aO _
  dsimp only
  rw[ag];omega
theorem LH {s:Bytes} (h:xK s=true):3<=s.length:=by
 unfold xK at h
 rw[decide_eq_true_eq]at h
 have:2<s.length:=by
  rcases h with h|h <;>exact(be.mp h).1
 omega
theorem Td {s:Bytes} (b:Int) {f:Nat} (h0:1<=f) (h:f<=s.length):1<=(Fe s b f).2∧(Fe s b f).2<=s.length:=by
 have hd:=SM b (s.drop f) 0
 rw[ai]at hd
 unfold Fe
 generalize (iY b 0 (s.drop f)).2=k at hd ⊢
 split
 ·exact⟨ae _,by omega⟩
 show 1<=f+k+(if s[f+k]? = some 59 then 1 else 0)∧f+k+(if s[f+k]? = some 59 then 1 else 0)<=s.length
 split
 ·next e =>
  have:=(be.mp e).1
  omega
 omega
theorem a0b {s:Bytes} (h:2<=s.length):1<=(tH s).2∧(tH s).2<=s.length:=by
 unfold tH
 split
 ·next e=>exact Td _ (by omega) (LH e)
 exact Td _ (by omega) h
theorem yf {s:Bytes} (h:1<=s.length):1<=(fH s).2∧(fH s).2<=s.length:=by
 unfold fH
 split
 ·next e =>
  refine a0b ?_
  unfold Lib.hasPrefix at e
  have:=(dO.mp e).length_le
  simpa using this
 have:=Fo s (min 15 (s.length-1))
 omega
theorem zy (c:Int):(enc c).length<=4:=(jT c).2
theorem Lp:∀ p∈zN,p.2.length<=6:=by decide
theorem Gf:∀ p∈qd,p.2.length<=6:=by decide
theorem Hm {s t:Bytes} (h:et s=some t):t.length<=6:=by
 unfold et at h
 split at h
 ·next t' e=>cases h;exact Lp _ (px e)
 split at h
 ·unfold gN at h
  split at h
  ·have e:=bw h
   subst e
   exact aq (zy _) (by decide)
  exact Gf _ (px h)
 cases h
theorem wo (s:Bytes):∀ n,(gM s n).1.length<=6
 |0=>by show([38]:Bytes).length<=6;decide
 |n+1=>by
  have ih:=wo s n
  unfold gM
  split
  ·exact ih
  next t e =>
  split
  ·exact(by decide:([38]:Bytes).length<=6)
  exact Hm e
theorem Qz (s:Bytes) (b:Int) (f:Nat):(Fe s b f).1.length<=6:=by
 unfold Fe
 split
 ·exact(by decide:([38]:Bytes).length<=6)
 show(fD _).length<=6
 unfold fD
 split
 iterate 2
  ·exact aq (zy _) (by decide)
theorem Aj (s:Bytes):(fH s).1.length<=6:=by
 unfold fH
 split
 ·unfold tH
  split <;>exact Qz _ _ _
 exact wo _ _
theorem zB:∀ (k m:Nat) (s:Bytes),s.length<=k->s.length<=m->sR k s=sR m s
 |0,0,s,_,_=>rfl
 |0,m+1,s,h,_=>by
  obtain rfl:s=[]:=dE.mp (by omega)
  rfl
 |k+1,0,s,_,h=>by
  obtain rfl:s=[]:=dE.mp (by omega)
  rfl
 |k+1,m+1,s,h1,h2=>by
  unfold sR
  split
  ·rfl
  next hne =>
  have hl:(s.dropWhile na).length<=s.length:=(ct _).length_le
  have h0:1<=(s.dropWhile na).length:=by
   rcases Nat.eq_zero_or_pos (s.dropWhile na).length with h|h
   ·exact absurd (dE.mp h) hne
   exact h
  have hn:=yf h0
  rw[zB k m _ (by rw[ai];omega) (by rw[ai];omega)]
theorem xG:fw []=[]:=rfl
theorem xF (s:Bytes):fw s=s.takeWhile na++(if s.dropWhile na=[]then []else(fH (s.dropWhile na)).1++fw ((s.dropWhile na).drop (fH (s.dropWhile na)).2)):=by
 cases s with
 |nil=>rfl
 |cons x r =>
  show sR (r.length+1) (x::r)=_
  unfold sR
  split
  ·rfl
  next hne =>
  have hl:((x::r).dropWhile na).length<=(x::r).length:=(ct _).length_le
  have h0:1<=((x::r).dropWhile na).length:=by
   rcases Nat.eq_zero_or_pos ((x::r).dropWhile na).length with h|h
   ·exact absurd (dE.mp h) hne
   exact h
  have hn:=yf h0
  rw[ag]at hl
  rw[zB r.length _ _ (by rw[ai];omega) (ae _)]
  rfl
theorem sS {x:UInt8} (r:Bytes) (h:x≠38):fw (x::r)=x::fw r:=by
 have hx:na x=true:=by unfold na;simpa using h
 rw[xF (x::r),xF r,bo hx,bh hx]
 rfl
theorem xE (r:Bytes):fw (38::r)=(fH (38::r)).1++fw ((38::r).drop (fH (38::r)).2):=by
 have hx:¬ na 38=true:=by decide
 rw[xF (38::r),bd hx,bC hx,if_neg (by simp)]
 rfl
theorem rU:∀ (n:Nat) (s:Bytes),s.length<=n->(fw s).length<=6*s.length
 |0,s,h=>by
  obtain rfl:s=[]:=dE.mp (by omega)
  exact ae _
 |n+1,[],_=>ae _
 |n+1,x::r,h=>by
  rw[ag]at h
  by_cases hx:x=38
  ·subst hx
   have h1:=yf (s:=38::r) (by simp)
   have h2:=Aj (38::r)
   have ih:=rU n ((38::r).drop (fH (38::r)).2) (by rw[ai,ag];omega)
   rw[ai,ag]at ih
   rw[xE,af,ag]
   omega
  have ih:=rU n r (by omega)
  rw[sS r hx,ag,ag]
  omega
theorem qi:∀ (s:Bytes),(∀x∈s,x≠38)->fw s=s
 | [],_=>rfl
 |x::r,h=>by rw[sS r (h x (by simp)),qi r fun y hy=>h y (by simp[hy])]
theorem GD:∀ p∈zN,(59:UInt8)∉p.1:=by decide
theorem BG:∀ p∈qd,(59:UInt8)∉p.1:=by decide
theorem Gg:∀ p∈l8,(59:UInt8)∉p.1:=by decide
theorem qx {α:Type} {l:List (Bytes×α)} {s:Bytes} (hl:∀ p∈l,(59:UInt8)∉p.1) (hs:(59:UInt8)∈s):look l s=none:=by
 cases h:look l s with
 |none=>rfl
 |some t=>exact absurd hs (hl _ (px h))
theorem Db {s:Bytes} (h:(59:UInt8)∈iM s):et s=none:=by
 unfold et
 have h1:s5 (iM s)=none:=qx GD h
 rw[h1]
 dsimp only
 split
 ·unfold gN nK
  rw[qx Gg h,if_neg (by simp),qx BG h]
 rfl
theorem Dr (a t:Bytes):∀ n,a.length+1<=n->n<=a.length+1+t.length->(∃r,et (a++[59])=some r)->gM (38::(a++59::t)) n=((et (a++[59])).getD [],a.length+2):=by
 intro n
 induction n with
 |zero=>intro h _ _;omega
 |succ n ih =>
  intro h hu hr
  obtain⟨r,hr⟩:=hr
  unfold gM
  have hd:(38::(a++59::t)).drop 1=a++59::t:=rfl
  rw[hd]
  by_cases hn:n=a.length
  ·subst hn
   have ht:(a++59::t).take (a.length+1)=a++[59]:=by
    rw[List.take_length_add_append];rfl
   rw[ht,hr]
   dsimp only
   have ho:MS (38::(a++59::t)) (a.length+1)=false:=by
    unfold MS
    have:(38::(a++59::t))[a.length+1]? = some 59:=by
     rw[bZ,cu (ae _),fc];rfl
    rw[this]
    rfl
   rw[ho,if_neg (by simp)]
   rfl
  have ht:(a++59::t).take (n+1)=a++59::t.take (n-a.length):=by
   rw[List.take_append,aI (by omega)]
   rw[show n+1-a.length=(n-a.length)+1 by omega,ex]
  rw[ht]
  have hno:et (a++59::t.take (n-a.length))=none∨t.take (n-a.length)=[]:=by
   cases hu:t.take (n-a.length)with
   |nil=>exact .inr rfl
   |cons y u =>
    refine .inl (Db ?_)
    unfold iM
    split
    ·rw[List.dropLast_append_of_ne_nil (by simp)]
     simp[List.dropLast]
    simp
  rcases hno with hno|hno
  ·rw[hno]
   exact ih (by omega) (by omega) ⟨r,hr⟩
  rw[List.take_eq_nil_iff]at hno
  rcases hno with hno|hno
  ·omega
  rw[hno]at hu
  simp only[aQ]at hu
  omega

theorem Wd {x:UInt8} {r:Bytes} (h:x≠35):Lib.hasPrefix (38::x::r) [38,35]=false:=by
 unfold Lib.hasPrefix
 have:(35==x)=false:=by simpa using fun e:35=x=>h e.symm
 simp[List.isPrefixOf,this]
theorem QL (r:Bytes):Lib.hasPrefix (38::35::r) [38,35]=true:=by
 unfold Lib.hasPrefix
 simp[List.isPrefixOf]
theorem KY (t:Bytes):fw ([38,97,109,112,59]++t)=38::fw t:=by
 have h:fH ([38,97,109,112,59]++t)=([38],5):=by
  show fH (38::97::(109::112::59::t))=_
  unfold fH
  rw[Wd (by decide),if_neg (by simp)]
  have h2:=Dr [97,109,112] t (min 15 ((38::97::(109::112::59::t)).length-1)) (by simp only[ag,aQ];omega) (by simp only[ag,aQ];omega) ⟨[38],by decide⟩
  exact h2
 rw[show([38,97,109,112,59]++t:Bytes)=38::([97,109,112,59]++t)from rfl,xE]
 rw[show(38::([97,109,112,59]++t):Bytes)=[38,97,109,112,59]++t from rfl,h]
 rfl
theorem zp (base:Int) (hb:base=10) (t:Bytes):∀ (l:Bytes) (n:Int),(iY base n l).2=l.length->iY base n (l++59::t)=((iY base n l).1,l.length)
 | [],n,_=>by
  subst hb
  show iY 10 n (59::t)=_
  unfold iY
  rw[if_pos (by decide)]
  rfl
 |x::r,n,h=>by
  show iY base n (x::(r++59::t))=_
  unfold iY at h ⊢
  split
  ·next e =>
   rw[if_pos e]at h
   simp at h
  next e =>
  rw[if_neg e]at h
  have ih:=zp base hb t r (rA (n*base+eF (b2 x) base)) (by simpa using h)
  rw[ih]
  rfl
def mz (n:Nat):Bytes:=[38,35]++Lib.decDigits n++[59]
theorem Px (n:Nat) (t:Bytes) (h:iY 10 0 (Lib.decDigits n)=((n:Int),(Lib.decDigits n).length)) (hx:(Lib.decDigits n)[0]? ≠ some 120∧(Lib.decDigits n)[0]? ≠ some 88) (h1:1<=(Lib.decDigits n).length):fw (mz n++t)=fD n++fw t:=by
 unfold mz
 generalize hD:Lib.decDigits n=D at h hx h1
 have hr:fH ([38,35]++D++[59]++t)=(fD n,D.length+3):=by
  show fH (38::35::(D++[59]++t))=_
  unfold fH
  rw[QL,if_pos rfl]
  have a36:xK (38::35::(D++[59]++t))=false:=by
   unfold xK
   have e:(38::35::(D++[59]++t))[2]? = D[0]?:=by
    show(D++[59]++t)[0]? = _
    rw[aX,cG (by omega)]
   rw[e]
   simp[hx]
  have hdr:(38::35::(D++[59]++t)).drop 2=D++59::t:=by simp
  have hg:iY 10 0 (D++59::t)=((n:Int),D.length):=by rw[zp 10 rfl t D 0 (by rw[h]),h]
  unfold tH Fe
  rw[a36,if_neg (by simp),hdr,hg]
  have hat:(38::35::(D++[59]++t))[2+D.length]? = some 59:=by
   rw[show 2+D.length=D.length+1+1 by omega,bZ,bZ,aX,cu (ae _),fc]
   rfl
  show(if D.length=0 then _ else _)=_
  rw[if_neg (by omega)]
  show(fD (n:Int),2+D.length+(if(38::35::(D++[59]++t))[2+D.length]? = some 59 then 1 else 0))=_
  rw[hat,if_pos rfl]
  congr 1
  omega
 rw[show([38,35]++D++[59]++t:Bytes)=38::([35]++D++[59]++t)from rfl,xE]
 rw[show(38::([35]++D++[59]++t):Bytes)=[38,35]++D++[59]++t from rfl,hr]
 dsimp only
 congr 1
 have e:[38,35]++D++[59]++t=([38,35]++D++[59])++t:=rfl
 have hl:D.length+3=([38,35]++D++[59]:Bytes).length:=by simp
 rw[hl,oI]
theorem qz:∀ k:Fin 128,iY 10 0 (Lib.decDigits k.val)=((k.val:Int),(Lib.decDigits k.val).length)∧((Lib.decDigits k.val)[0]? ≠ some 120∧(Lib.decDigits k.val)[0]? ≠ some 88)∧1<=(Lib.decDigits k.val).length:=by decide +kernel
theorem zC (n:Nat) (h:n<128) (t:Bytes):fw (mz n++t)=fD n++fw t :=
 Px n t (qz ⟨n,h⟩).1 (qz ⟨n,h⟩).2.1 (qz ⟨n,h⟩).2.2
theorem ua {n:Nat} (h:1<=n∧n<128):fD n=[UInt8.ofNat n]:=by
 unfold fD pJ
 rw[if_neg (by omega),if_neg (by omega),sN (by omega) (by omega)]
 rfl
theorem one_num:iu 34=mz 34∧iu 39=mz 39∧iu 60=mz 60∧iu 62=mz 62∧iu 96=mz 96:=by decide +kernel
theorem o3 {x:UInt8} {n:Nat} (h:iu x=mz n) (hn:1<=n∧n<128) (hx:UInt8.ofNat n=x) (t:Bytes):fw (iu x++t)=x::fw t:=by
 rw[h,zC n hn.2,ua hn,hx]
 rfl
theorem Py (x:UInt8) (t:Bytes):fw (iu x++t)=x::fw t:=by
 have hc:x=38∨x=34∨x=39∨x=60∨x=62∨x=96∨(iu x=[x]∧x≠38):=by
  have hall:∀ k:Fin 256,UInt8.ofNat k.val=38∨UInt8.ofNat k.val=34∨UInt8.ofNat k.val=39∨UInt8.ofNat k.val=60∨UInt8.ofNat k.val=62∨UInt8.ofNat k.val=96∨(iu (UInt8.ofNat k.val)=[UInt8.ofNat k.val]∧UInt8.ofNat k.val≠38):=by decide +kernel
  exact l9 (P:=fun x=>x=38∨x=34∨x=39∨x=60∨x=62∨x=96∨(iu x=[x]∧x≠38)) hall x
 rcases hc with rfl|rfl|rfl|rfl|rfl|rfl|⟨h,hn⟩
 ·exact KY t
 ·exact o3 one_num.1 (by decide) rfl t
 ·exact o3 one_num.2.1 (by decide) rfl t
 ·exact o3 one_num.2.2.1 (by decide) rfl t
 ·exact o3 one_num.2.2.2.1 (by decide) rfl t
 ·exact o3 one_num.2.2.2.2 (by decide) rfl t
 rw[h]
 exact sS t hn
theorem EG:∀ (l t:Bytes),fw (fh l++t)=l++fw t
 | [],_=>rfl
 |x::r,t=>by
  show fw ((iu x++fh r)++t)=_
  rw[aX,Py,EG r t]
  rfl
theorem KZ (l:Bytes):fw (fh l)=l:=by
 have:=EG l []
 rw[aV,xG,aV]at this
 exact this
def jR (l:Bytes):Bytes:=l.flatMap fun x=>mz x.toNat
theorem zA:∀ (l t:Bytes),(∀x∈l,1<=x.toNat∧x.toNat<128)->fw (jR l++t)=l++fw t
 | [],_,_=>rfl
 |x::r,t,h=>by
  have hx:=h x (by simp)
  show fw ((mz x.toNat++jR r)++t)=_
  rw[aX,zC _ hx.2,ua hx,zA r t fun y hy=>h y (by simp[hy]),cC]
  rfl
theorem Gu (l:Bytes) (h:∀ x∈l,1<=x.toNat∧x.toNat<128):fw (jR l)=l:=by
 have:=zA l [] h
 rw[aV,xG,aV]at this
 exact this
end Go.Proofs.YtmndlfglgcioeaaGreatDoor
