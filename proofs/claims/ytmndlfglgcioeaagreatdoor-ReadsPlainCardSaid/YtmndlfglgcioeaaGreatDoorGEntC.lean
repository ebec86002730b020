/- The walks of entity's names: free, boundByte, bound, shown (written by genEntC.py). -/
import Derived.Deep.Cut
import Derived.Test.YtmndlfglgcioeaaGreatDoorGEntA
import Derived.Test.YtmndlfglgcioeaaGreatDoorGArr
set_option maxHeartbeats 40000000
namespace Go.Proofs.YtmndlfglgcioeaaGreatDoor
open Tryz
open Go.RowKit
set_option maxRecDepth 10000
theorem pG {o:Option Bytes} {t:Bytes} (h:o=some t):Ending.returned (.tuple #[.string (bs t),.bool true])=.returned (.tuple #[S (o.getD []),.bool o.isSome]):=by subst h;rfl
theorem tR {o:Option Bytes} (h:o=none):Ending.returned (.tuple #[.string (bs []),.bool false])=.returned (.tuple #[S (o.getD []),.bool o.isSome]):=by subst h;rfl
theorem Ln (s:Bytes) (w:World):Calls prog 153 #[.string (bs s)] w fun e w'=>e=.returned (.tuple #[S ((s5 s).getD []),.bool (s5 s).isSome])∧w'=w:=by
 obtain⟨b,hb⟩:=ap (bs s)
 have E:=h_ (show b.toList=s by rw[hb,au])
 rw[<-hb]
 clear hb
 go_enter func153,ntmps153
 go_wp2_with fail
 all_goals
  simp only[E.out,beq_iff_eq,beq_eq_false_iff_ne,ne_eq]at *
  go_ret2
  refine⟨?_,rfl⟩
  first
   |(refine pG ?_;simp_all[s5,zN,look];done)
   |(refine tR ?_;simp_all[s5,zN,look];done)
def VZ:Array Value:=#[.string ⟨#[97,112,111,115]⟩,.int .u8 39,.string ⟨#[99,111,108,111,110]⟩,.int .u8 58,.string ⟨#[115,111,108]⟩,.int .u8 47,.string ⟨#[98,115,111,108]⟩,.int .u8 92,.string ⟨#[113,117,101,115,116]⟩,.int .u8 63,.string ⟨#[110,117,109]⟩,.int .u8 35,.string ⟨#[112,101,114,99,110,116]⟩,.int .u8 37,.string ⟨#[99,111,109,109,97,116]⟩,.int .u8 64,.string ⟨#[101,113,117,97,108,115]⟩,.int .u8 61,.string ⟨#[112,108,117,115]⟩,.int .u8 43,.string ⟨#[99,111,109,109,97]⟩,.int .u8 44,.string ⟨#[112,101,114,105,111,100]⟩,.int .u8 46,.string ⟨#[115,101,109,105]⟩,.int .u8 59,.string ⟨#[101,120,99,108]⟩,.int .u8 33,.string ⟨#[100,111,108,108,97,114]⟩,.int .u8 36,.string ⟨#[97,115,116]⟩,.int .u8 42,.string ⟨#[108,111,119,98,97,114]⟩,.int .u8 95,.string ⟨#[103,114,97,118,101]⟩,.int .u8 96,.string ⟨#[72,97,116]⟩,.int .u8 94,.string ⟨#[108,112,97,114]⟩,.int .u8 40,.string ⟨#[114,112,97,114]⟩,.int .u8 41,.string ⟨#[108,115,113,98]⟩,.int .u8 91,.string ⟨#[114,115,113,98]⟩,.int .u8 93,.string ⟨#[108,99,117,98]⟩,.int .u8 123,.string ⟨#[114,99,117,98]⟩,.int .u8 125,.string ⟨#[118,101,114,98,97,114]⟩,.int .u8 124,.string ⟨#[84,97,98]⟩,.int .u8 9,.string ⟨#[78,101,119,76,105,110,101]⟩,.int .u8 10]
def nmZ:Array Value:=#[.string ⟨#[]⟩,.int .u8 0,.string ⟨#[]⟩,.int .u8 0,.string ⟨#[]⟩,.int .u8 0,.string ⟨#[]⟩,.int .u8 0,.string ⟨#[]⟩,.int .u8 0,.string ⟨#[]⟩,.int .u8 0,.string ⟨#[]⟩,.int .u8 0,.string ⟨#[]⟩,.int .u8 0,.string ⟨#[]⟩,.int .u8 0,.string ⟨#[]⟩,.int .u8 0,.string ⟨#[]⟩,.int .u8 0,.string ⟨#[]⟩,.int .u8 0,.string ⟨#[]⟩,.int .u8 0,.string ⟨#[]⟩,.int .u8 0,.string ⟨#[]⟩,.int .u8 0,.string ⟨#[]⟩,.int .u8 0,.string ⟨#[]⟩,.int .u8 0,.string ⟨#[]⟩,.int .u8 0,.string ⟨#[]⟩,.int .u8 0,.string ⟨#[]⟩,.int .u8 0,.string ⟨#[]⟩,.int .u8 0,.string ⟨#[]⟩,.int .u8 0,.string ⟨#[]⟩,.int .u8 0,.string ⟨#[]⟩,.int .u8 0,.string ⟨#[]⟩,.int .u8 0,.string ⟨#[]⟩,.int .u8 0,.string ⟨#[]⟩,.int .u8 0,.string ⟨#[]⟩,.int .u8 0]
def nmN (k:Nat):Bytes:=(l8.getD k ([],0)).1
def nmC (k:Nat):Nat:=(l8.getD k ([],0)).2
theorem YC (w:World):(Instr.build 187 #[(0,.agg #[.string ⟨#[97,112,111,115]⟩,.int .u8 39]),(1,.agg #[.string ⟨#[99,111,108,111,110]⟩,.int .u8 58]),(2,.agg #[.string ⟨#[115,111,108]⟩,.int .u8 47]),(3,.agg #[.string ⟨#[98,115,111,108]⟩,.int .u8 92]),(4,.agg #[.string ⟨#[113,117,101,115,116]⟩,.int .u8 63]),(5,.agg #[.string ⟨#[110,117,109]⟩,.int .u8 35]),(6,.agg #[.string ⟨#[112,101,114,99,110,116]⟩,.int .u8 37]),(7,.agg #[.string ⟨#[99,111,109,109,97,116]⟩,.int .u8 64]),(8,.agg #[.string ⟨#[101,113,117,97,108,115]⟩,.int .u8 61]),(9,.agg #[.string ⟨#[112,108,117,115]⟩,.int .u8 43]),(10,.agg #[.string ⟨#[99,111,109,109,97]⟩,.int .u8 44]),(11,.agg #[.string ⟨#[112,101,114,105,111,100]⟩,.int .u8 46]),(12,.agg #[.string ⟨#[115,101,109,105]⟩,.int .u8 59]),(13,.agg #[.string ⟨#[101,120,99,108]⟩,.int .u8 33]),(14,.agg #[.string ⟨#[100,111,108,108,97,114]⟩,.int .u8 36]),(15,.agg #[.string ⟨#[97,115,116]⟩,.int .u8 42]),(16,.agg #[.string ⟨#[108,111,119,98,97,114]⟩,.int .u8 95]),(17,.agg #[.string ⟨#[103,114,97,118,101]⟩,.int .u8 96]),(18,.agg #[.string ⟨#[72,97,116]⟩,.int .u8 94]),(19,.agg #[.string ⟨#[108,112,97,114]⟩,.int .u8 40]),(20,.agg #[.string ⟨#[114,112,97,114]⟩,.int .u8 41]),(21,.agg #[.string ⟨#[108,115,113,98]⟩,.int .u8 91]),(22,.agg #[.string ⟨#[114,115,113,98]⟩,.int .u8 93]),(23,.agg #[.string ⟨#[108,99,117,98]⟩,.int .u8 123]),(24,.agg #[.string ⟨#[114,99,117,98]⟩,.int .u8 125]),(25,.agg #[.string ⟨#[118,101,114,98,97,114]⟩,.int .u8 124]),(26,.agg #[.string ⟨#[84,97,98]⟩,.int .u8 9]),(27,.agg #[.string ⟨#[78,101,119,76,105,110,101]⟩,.int .u8 10])]).run prog w=.ok (.agg VZ) w:=by kernel_rfl
theorem Yj (w:World):(Instr.alloc 187 true (Value.tuple #[])).run prog w=.ok (.pointer (some ⟨w.heap.size,0,none⟩)) (w.alloc (.cells nmZ 187)):=by kernel_rfl
theorem S4:(prog.info? 187).map (·.size)=some VZ.size:=by kernel_rfl
theorem a0h:VZ.all (·.oneCell')=true:=by kernel_rfl
theorem Z3 {k:Nat} (h:k<28) (w:World):(Instr.index 187 (.agg VZ) (.int .i64 (k:Int))).run prog w=.ok (.agg #[.string (bs (nmN k)),.int .u8 (nmC k:Nat)]) w:=by
 rcases(by omega:k=0∨k=1∨k=2∨k=3∨k=4∨k=5∨k=6∨k=7∨k=8∨k=9∨k=10∨k=11∨k=12∨k=13∨k=14∨k=15∨k=16∨k=17∨k=18∨k=19∨k=20∨k=21∨k=22∨k=23∨k=24∨k=25∨k=26∨k=27)with rfl|rfl|rfl|rfl|rfl|rfl|rfl|rfl|rfl|rfl|rfl|rfl|rfl|rfl|rfl|rfl|rfl|rfl|rfl|rfl|rfl|rfl|rfl|rfl|rfl|rfl|rfl|rfl <;>kernel_rfl
theorem Qy {k:Nat} (h:k<28) (s:Bytes):look (l8.drop k) s=if s=nmN k then some (nmC k)else look (l8.drop (k+1)) s:=by
 have hl:k<l8.length:=h
 rw[ay hl]
 unfold nmN nmC
 rw[oJ,az hl]
 rfl
theorem Gb (s:Bytes) (w:World):Calls prog 179 #[.string (bs s)] w fun e w'=>e=.returned (.int .u8 (nK s:Nat))∧Below w.heap.size w w':=by
 obtain⟨b,hb⟩:=ap (bs s)
 have E:=h_ (show b.toList=s by rw[hb,au])
 rw[<-hb]
 clear hb
 go_enter func179,ntmps179
 go_wp2_with (first
  |(refine bG rfl 187 _ rfl (.agg VZ) _ (by rfl) YC ?_)
  |(refine aE rfl 187 rfl _ _ (Yj _) ?_)
  |(refine gd rfl 187 _ _ rfl VZ nmZ 187 rfl rfl S4 rfl a0h ?_)
  |(refine tB rfl 187 _ rfl VZ 187 rfl _ underlying187 rfl S4 ?_)
  |fail)
 go_loopw [36] (fun iv wr=>∃ k:Nat,k<=28∧iv=.int .i64 k∧look l8 s=look (l8.drop k) s∧Below w.heap.size w wr) (fun i _=>28-(intOf i).toNat)
 case atStart=>exact⟨0,by omega,rfl,rfl,(Below.refl _ _).alloc (ae _) _⟩
 case round =>
  obtain⟨k,hk,rfl,hno,hbl⟩:=hrel
  have HB:=h_ hbl;clear hbl
  by_cases hlt:k<28
  ·have hst:=Qy hlt s
   rw[<-hno]at hst
   clear hno
   obtain⟨n,hn⟩:=ap (nmN k)
   obtain⟨c,hc⟩:=ap (nmC k)
   obtain⟨nb,hnb⟩:=ap (bs n)
   have hix:=Z3 hlt
   rw[<-hn,<-hc,<-hnb]at hix
   rw[<-hn,<-hc]at hst
   have IX:=h_ hix
   by_cases hs:s=n
   ·have hcm:(nb.toList==b.toList)=true:=by rw[hnb,au,E.out,hs];simp
    have hbf:nK s=c:=by unfold nK;rw[hst,if_pos hs];rfl
    have HF:=h_ hbf
    clear hbf hst hn hc hnb hix hs
    go_wp2_with (first
     |(refine cm rfl 187 _ _ rfl _ _ _ rfl rfl IX.out ?_)
     |fail)
    go_ret
    exact⟨by rw[HF.out];rfl,HB.out.alloc HB.out.size _⟩
   have hcm:(nb.toList==b.toList)=false:=by rw[hnb,au,E.out];simp;exact fun h=>hs h.symm
   rw[if_neg hs]at hst
   have HT:=h_ hst
   clear hst hn hc hnb hix hs
   go_wp2_with (first
    |(refine cm rfl 187 _ _ rfl _ _ _ rfl rfl IX.out ?_)
    |fail)
   go_roundw
   case rel=>exact⟨k+1,by omega,by go_num,HT.out,HB.out.alloc HB.out.size _⟩
   case measure=>simp[intOf];omega
  obtain rfl:k=28:=by omega
  have HT:=h_ hno
  clear hno
  go_wp2_with fail
  go_ret
  exact⟨by unfold nK;rw[HT.out];rfl,HB.out⟩
def IT:Array Value:=#[.int .i64 8364,.int .i64 129,.int .i64 8218,.int .i64 402,.int .i64 8222,.int .i64 8230,.int .i64 8224,.int .i64 8225,.int .i64 710,.int .i64 8240,.int .i64 352,.int .i64 8249,.int .i64 338,.int .i64 141,.int .i64 381,.int .i64 143,.int .i64 144,.int .i64 8216,.int .i64 8217,.int .i64 8220,.int .i64 8221,.int .i64 8226,.int .i64 8211,.int .i64 8212,.int .i64 732,.int .i64 8482,.int .i64 353,.int .i64 8250,.int .i64 339,.int .i64 157,.int .i64 382,.int .i64 376]
def shZ:Array Value:=#[.int .i64 0,.int .i64 0,.int .i64 0,.int .i64 0,.int .i64 0,.int .i64 0,.int .i64 0,.int .i64 0,.int .i64 0,.int .i64 0,.int .i64 0,.int .i64 0,.int .i64 0,.int .i64 0,.int .i64 0,.int .i64 0,.int .i64 0,.int .i64 0,.int .i64 0,.int .i64 0,.int .i64 0,.int .i64 0,.int .i64 0,.int .i64 0,.int .i64 0,.int .i64 0,.int .i64 0,.int .i64 0,.int .i64 0,.int .i64 0,.int .i64 0,.int .i64 0]
theorem SD (w:World):(Instr.build 185 #[(0,.int .i64 8364),(1,.int .i64 129),(2,.int .i64 8218),(3,.int .i64 402),(4,.int .i64 8222),(5,.int .i64 8230),(6,.int .i64 8224),(7,.int .i64 8225),(8,.int .i64 710),(9,.int .i64 8240),(10,.int .i64 352),(11,.int .i64 8249),(12,.int .i64 338),(13,.int .i64 141),(14,.int .i64 381),(15,.int .i64 143),(16,.int .i64 144),(17,.int .i64 8216),(18,.int .i64 8217),(19,.int .i64 8220),(20,.int .i64 8221),(21,.int .i64 8226),(22,.int .i64 8211),(23,.int .i64 8212),(24,.int .i64 732),(25,.int .i64 8482),(26,.int .i64 353),(27,.int .i64 8250),(28,.int .i64 339),(29,.int .i64 157),(30,.int .i64 382),(31,.int .i64 376)]).run prog w=.ok (.agg IT) w:=by kernel_rfl
theorem Sk (w:World):(Instr.alloc 185 true (Value.tuple #[])).run prog w=.ok (.pointer (some ⟨w.heap.size,0,none⟩)) (w.alloc (.cells shZ 185)):=by kernel_rfl
theorem S5:(prog.info? 185).map (·.size)=some IT.size:=by kernel_rfl
theorem Te:IT.all (·.oneCell')=true:=by kernel_rfl
theorem Po (w:World) (T:TypeId) (cs:Array Value) (j:Nat):(w.alloc (.cells cs T)).cell? ⟨w.heap.size,j,none⟩=cs[j]?:=by simp only[World.cell?,heap_alloc_new];rfl
theorem Wp {k:Nat} (h:k<32):IT[k]? = some (.int .i64 (wG.getD k 0:Nat)):=by
 have hl:k<wG.length:=h
 have e:IT=(wG.map fun c=>Value.int .i64 (c:Nat)).toArray:=by kernel_rfl
 rw[e,bY,er,az hl,oJ,az hl]
 rfl
theorem Ic (n:Int) (w:World):Calls prog 178 #[.int .i64 n] w fun e w'=>e=.returned (.int .i64 (pJ n))∧Below w.heap.size w w':=by
 by_cases h:128<=n∧n<=159
 ·obtain⟨k,rfl⟩:∃ k:Nat,n=(k:Int)+128:=⟨(n-128).toNat,by omega⟩
  have hk:k<32:=by omega
  have hw:IntKind.i64.wrap ((k:Int)+128-128)=(k:Int):=by rw[show(k:Int)+128-128=k by omega];exact IntWalk.i64_in _ (by omega)
  have hs:pJ ((k:Int)+128)=((wG.getD k 0:Nat):Int):=by
   unfold pJ
   rw[if_pos h,show((k:Int)+128-128).toNat=k by omega]
  obtain⟨v,hv⟩:=ap (wG.getD k 0)
  obtain⟨nn,hnn⟩:=ap ((k:Int)+128)
  have hsk:=Wp hk
  rw[<-hnn]at hw hs ⊢
  rw[<-hv]at hs hsk
  have HS:=h_ hs
  have HK:=h_ hsk
  have h1:128<=nn:=by omega
  have h2:nn<=159:=by omega
  clear hs hv hsk h hnn
  go_enter func178,ntmps178
  go_upto_region 2 with(first
   |(refine bG rfl 185 _ rfl (.agg IT) _ (by rfl) SD ?_)
   |(refine aE rfl 185 rfl _ _ (Sk _) ?_)
   |(refine gd rfl 185 _ _ rfl IT shZ 185 rfl rfl S5 rfl Te ?_)
   |fail)
  have hcell:=(Po w 185 IT k).trans HK.out
  have HB:=h_ ((Below.refl w.heap.size w).alloc (ae _) (.cells IT 185))
  obtain⟨g,hg⟩:=ap (w.heap.size)
  obtain⟨w1,hw1⟩:=ap (w.alloc (.cells IT 185))
  rw[<-hw1]at hcell HB ⊢
  rw[<-hg]at hcell HB ⊢
  have HG:=h_ hg
  clear hg hw1
  go_wp2_with fail
  go_ret
  exact⟨by rw[HS.out];rfl,by rw[HG.out]at HB;exact HB.out⟩
 have HS:=h_ (show pJ n=n by unfold pJ;rw[if_neg h])
 have hn:(128<=n∧159<n)∨n<128:=by omega
 rcases hn with⟨h1,h2⟩|h1
 all_goals
  clear h
  go_enter func178,ntmps178
  go_wp2_with (first
   |(refine bG rfl 185 _ rfl (.agg IT) _ (by rfl) SD ?_)
   |(refine aE rfl 185 rfl _ _ (Sk _) ?_)
   |(refine gd rfl 185 _ _ rfl IT shZ 185 rfl rfl S5 rfl Te ?_)
   |fail)
  go_ret
  exact⟨by rw[HS.out];rfl,(Below.refl _ _).alloc (ae _) _⟩
end Go.Proofs.YtmndlfglgcioeaaGreatDoor
