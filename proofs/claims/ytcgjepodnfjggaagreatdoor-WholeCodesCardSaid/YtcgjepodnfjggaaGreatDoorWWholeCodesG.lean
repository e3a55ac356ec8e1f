/- The walk of the statement WholeCodes, text 7. Conditions: each theorem tells its own. -/
import Derived.Test.YtcgjepodnfjggaaGreatDoorWWholeCodesF
import Derived.Test.YtcgjepodnfjggaaGreatDoorWWholeCodesX31
import Derived.Test.YtcgjepodnfjggaaGreatDoorWWholeCodesX32
import Derived.Test.YtcgjepodnfjggaaGreatDoorWWholeCodesX33
import Derived.Test.YtcgjepodnfjggaaGreatDoorWWholeCodesX34
import Derived.Test.YtcgjepodnfjggaaGreatDoorWWholeCodesX35
import Derived.Test.YtcgjepodnfjggaaGreatDoorWWholeCodesX36
import Derived.Test.YtcgjepodnfjggaaGreatDoorWWholeCodesX37
import Derived.Test.YtcgjepodnfjggaaGreatDoorWWholeCodesX5
import Derived.Test.YtcgjepodnfjggaaGreatDoorWWholeCodesX6
import Derived.Test.YtcgjepodnfjggaaGreatDoorWWholeCodesX7
import Derived.Test.YtcgjepodnfjggaaGreatDoorWWholeCodesX8
import Derived.Test.YtcgjepodnfjggaaGreatDoorWWholeCodesX9
import Derived.Test.YtcgjepodnfjggaaGreatDoorWWholeCodesX10
import Derived.Test.YtcgjepodnfjggaaGreatDoorWWholeCodesX11
import Derived.Test.YtcgjepodnfjggaaGreatDoorWWholeCodesX12
import Derived.Test.YtcgjepodnfjggaaGreatDoorWWholeCodesX13
import Derived.Test.YtcgjepodnfjggaaGreatDoorWWholeCodesX14
import Derived.Test.YtcgjepodnfjggaaGreatDoorWWholeCodesX15
import Derived.Test.YtcgjepodnfjggaaGreatDoorWWholeCodesX16
import Derived.Test.YtcgjepodnfjggaaGreatDoorWWholeCodesX17
import Derived.Test.YtcgjepodnfjggaaGreatDoorWWholeCodesX18
import Derived.Test.YtcgjepodnfjggaaGreatDoorWWholeCodesX19
import Derived.Test.YtcgjepodnfjggaaGreatDoorWWholeCodesX20
import Derived.Test.YtcgjepodnfjggaaGreatDoorWWholeCodesX21
import Derived.Test.YtcgjepodnfjggaaGreatDoorWWholeCodesX22
import Derived.Test.YtcgjepodnfjggaaGreatDoorWWholeCodesX23
import Derived.Test.YtcgjepodnfjggaaGreatDoorWWholeCodesX24
import Derived.Test.YtcgjepodnfjggaaGreatDoorWWholeCodesX25
import Derived.Test.YtcgjepodnfjggaaGreatDoorWWholeCodesX26
import Derived.Test.YtcgjepodnfjggaaGreatDoorWWholeCodesX27
import Derived.Test.YtcgjepodnfjggaaGreatDoorWWholeCodesC
import Derived.Test.YtcgjepodnfjggaaGreatDoorWWholeCodesB
import Derived.Test.YtcgjepodnfjggaaGreatDoorWWholeCodesD
set_option linter.all false
section
namespace Go.Proofs.YtcgjepodnfjggaaGreatDoor
open Go
set_option maxRecDepth 100000
theorem apf:Tryz.prog.laidByTextLater zr [.sentinel,.sentinel,.sentinel,.sentinel,.sentinel,.sentinel,.sentinel,.sentinel,.sentinel,.sentinel,.sentinel,.sentinel,.sentinel,.sentinel,.sentinel,.sentinel,.sentinel,.sentinel] true:=
 Program.laidByTextLater_by_run 400 8 aiz aoh agi auG ai4 arq akD auo adm atm
theorem aex:Rows.wholeCodesRow.laidByTextAt .later Tryz.pinned [.sentinel,.sentinel,.sentinel,.sentinel,.sentinel,.sentinel,.sentinel,.sentinel,.sentinel,.sentinel,.sentinel,.sentinel,.sentinel,.sentinel,.sentinel,.sentinel,.sentinel,.sentinel] true:=
 OpenClaim.laidByTextAt_later rfl rfl apf aoU
end Go.Proofs.YtcgjepodnfjggaaGreatDoor
end
section
namespace Go.Proofs.YtcgjepodnfjggaaGreatDoor
open Go Go.a6 Go.In Go.cv
set_option maxRecDepth 100000
theorem Jp:jW ny:=WQ (X:=cU) rfl (fun _ _=>rfl) P4
theorem aoT:jW Gg:=sL Jp
section
variable{e:Nat→Addr}{v:cu}{w:ao}{F:Nat→Prop}{w₀:ao}{R L:List bi}{σ:Mem}
theorem al9:cX 11 1=Cd 1:=by decide+kernel
theorem aki:cX 11 3=Cd 3:=by decide+kernel
theorem amJ:cX 11 5=Cd 5:=by decide+kernel
theorem ake{args:List ai}{outs:List (ai×Mem)}(h:QZ args σ=some outs)(hm:ct v σ)(aq:au F w₀ (bP ny.P (cW e) v σ.h::R) w):
  Go.a6.aU Tryz.prog 300∧Calls Tryz.prog 300 (bt (cW e) v args).toArray w (fun dG ar=>∃x,dG=.returned x∧hL ny.P (cW e) F w₀ R v σ.n outs x ar):=by
 unfold QZ at h;split at h
 ·rename_i m a b;cases ag:ai.eqv m (aS 11) with
  |false=>rw[ag] at h;cases h
  |true=>
   rw[ag,cp] at h;obtain rfl:=er h;obtain rfl:=rp _ _ ag;exact Bl inferInstance aq (show bt (cW e) v [aS 11,.i .i64 a,.i .i64 b]=[.int .i64 ((11:Nat):Int),.int .i64 a,.int .i64 b] by simp only[aS,bt,aT];rfl) (Cf 11 a b w ⟨by decide,by decide⟩) (fun ar dq=>y5 hm rfl (by simp only[aS,aT];rfl) (oh _) dq)
 ·cases h
theorem adf{args:List ai}{outs:List (ai×Mem)}(h:LS args σ=some outs)(hm:ct v σ)(aq:au F w₀ (bP ny.P (cW e) v σ.h::R) w):
  Go.a6.aU Tryz.prog 214∧Calls Tryz.prog 214 (bt (cW e) v args).toArray w (fun dG ar=>∃x,dG=.returned x∧hL ny.P (cW e) F w₀ R v σ.n outs x ar):=by
 unfold LS at h;split at h
 ·rename_i m i;cases ag:(ai.eqv m (aS 11)&&(Nat.beq i 1||Nat.beq i 3||Nat.beq i 5)) with
  |false=>rw[ag] at h;cases h
  |true=>
   rw[ag,cp] at h;obtain rfl:=er h;simp only[b7,HQ] at ag;obtain⟨l8,cR⟩:=ag;obtain rfl:=rp _ _ l8;have hR:=aer 11 (i:Nat) w ⟨by decide,by decide⟩;have he:cX 11 (em 11 ((i:Nat):Int))=Cd i∧(Cd i).length=11:=by
    rcases cR with(h|h)|h<;>obtain rfl:=dI h
    ·exact⟨al9,I⟩
    ·exact⟨aki,I⟩
    ·exact⟨amJ,I⟩
   unfold pV at hR;rw[he.1,he.2] at hR;refine xR inferInstance aq (show bt (cW e) v [aS 11,.i .i64 (.ofNat i)]=[.int .i64 ((11:Nat):Int),.int .i64 (i:Nat)] by simp only[aS,bt,aT];rfl) hR (fun z ar aL dq=>?_);refine yt (q:=z) (m:=11) (r:=.aP σ.n 1 0 11) hm (by decide) (CQ _) (vQ _) (fun g hle=>wK hle) (fun g kw=>?_) (oh _) dq;obtain⟨gC,z2⟩:=z;simp only at kw;subst kw;rw[xk]
 ·cases h
theorem NJ:il ny (cW e) F w₀:=by
 intro f b ad args σ outs v R w h hm fZ aq;have ad:ME f=some b:=ad;unfold ME at ad;cases aM:Nat.beq f 300 with
 |false=>
  rw[aM,eO] at ad;cases hD:Nat.beq f 214 with
  |false=>rw[hD] at ad;cases ad
  |true=>
   rw[hD,cp] at ad;obtain rfl:=er ad;obtain rfl:=dI hD;exact adf h hm aq
 |true=>
  rw[aM,cp] at ad;obtain rfl:=er ad;obtain rfl:=dI aM;exact ake h hm aq
theorem afs(bV:iW cU.P cU.G (cW e) F w₀):il Gg (cW e) F w₀:=r7 (X:=ny) bV Jp NJ (fun q aM=>by
 simp only[ei,we,or_false] at aM;rcases aM with rfl|rfl|rfl
 ·exact afN
 ·exact aev
 ·exact akF)
theorem Zv:ct v ⟨0,.leaf⟩:=fun id o h=>by rw[T.oO] at h;cases h
theorem Is{g:nR}{l:ae}{n:Nat}(bg:∀v,bt (cW e) v [.agg (l.map aS)]=[g.agg])(aM:hv ny 200 18 (Bh l n)=true)(aQ:1≤n):vn e g n:=by
 refine⟨aQ,fun w he=>?_⟩;have ad:∀(v:cu),cA v 0 [.agg (l.map aS)]=true:=fun v=>by
  have:∀l:ae,cA v 0 (l.map aS)=true:=fun l=>by
   induction l with
   |nil=>rfl
   |cons a r ih=>show(Go.In.bM v 0 (aS a)&&cA v 0 (r.map aS))=true;rw[ih];rfl
  simp only[cA,Go.In.bM,this,pH]
 obtain⟨_,k⟩:=Nc (X:=ny) (v:=⟨fun _=>0,fun _=>0⟩) (YO he) Jp NJ aM Zv (ad _) (Qv (au.start w));have k:Calls Tryz.prog 18 (bt (cW e) ⟨fun _=>0,fun _=>0⟩ [.agg (l.map aS)]).toArray w _:=k;rw[bg] at k;exact Calls.mono k (fun dG ar ⟨a1,aa,_,ab⟩=>⟨aa.trans (by simp only[Bh,aS,aT];rfl),ab.tail⟩)
theorem Z9:vn e ⟨10,8,16,9,2,2,0,3,4⟩ 9∧vn e ⟨12,6,16,9,1,2,1,2,3⟩ 6∧vn e ⟨12,16,96,11,3,2,3,4,5⟩ 16∧vn e ⟨9,16,64,10,2,2,0,5,6⟩ 19:=by
 have h:=kJ aoy;refine⟨Is (fun v=>?_) (h _ (.head _)) (by decide),Is (fun v=>?_) (h _ (.tail _ (.head _))) (by decide),Is (fun v=>?_) (h _ (.tail _ (.tail _ (.head _)))) (by decide),Is (fun v=>?_) (h _ (.tail _ (.tail _ (.tail _ (.head _))))) (by decide)⟩<;>(simp only[List.map,aS,bt,aT];rfl)
end
end Go.Proofs.YtcgjepodnfjggaaGreatDoor
end
section
namespace Go.Proofs.YtcgjepodnfjggaaGreatDoor
open Go Go.a6 Go.In
section
variable{e:Nat→Addr}{F:Nat→Prop}{w₀:ao}
theorem rX{p:Rec→Prop}{l r:List Rec}(aa:∀q∈l,p q)(ab:∀q∈r,p q):∀q∈l++r,p q:=fun q aM=>(List.mem_append.1 aM).elim (aa q) (ab q)
theorem acW:jW G1:=sL P4
theorem adr(bV:iW cU.P cU.G (cW e) F w₀)(dj:il cU (cW e) F w₀):il G1 (cW e) F w₀:=r7 (X:=cU) bV P4 dj (rX (kJ apS) (rX (kJ aet) (rX (kJ akq) (rX (kJ alS) (rX (kJ aqh) (rX (kJ adi) (rX (kJ apu) (rX (kJ amD) (kJ aoJ)))))))))
theorem Y1:jW DW:=sL acW
theorem agO(bV:iW cU.P cU.G (cW e) F w₀)(dj:il cU (cW e) F w₀):il DW (cW e) F w₀:=r7 (X:=G1) bV acW (adr bV dj) (rX (kJ aot) (kJ ag0))
theorem TR:jW PT:=sL Y1
theorem amG(bV:iW cU.P cU.G (cW e) F w₀)(dj:il cU (cW e) F w₀):il PT (cW e) F w₀:=r7 (X:=DW) bV Y1 (agO bV dj) (rX (kJ ari) (rX (kJ api) (kJ atz)))
theorem T6:jW Mu:=sL TR
theorem agp(bV:iW cU.P cU.G (cW e) F w₀)(dj:il cU (cW e) F w₀):il Mu (cW e) F w₀:=r7 (X:=PT) bV TR (amG bV dj) (kJ aqi)
theorem UA:jW Lx:=sL T6
theorem aje(bV:iW cU.P cU.G (cW e) F w₀)(dj:il cU (cW e) F w₀):il Lx (cW e) F w₀:=r7 (X:=Mu) bV T6 (agp bV dj) (kJ aek)
theorem SK:jW NA:=sL UA
theorem ary(bV:iW cU.P cU.G (cW e) F w₀)(dj:il cU (cW e) F w₀):il NA (cW e) F w₀:=r7 (X:=Lx) bV UA (aje bV dj) (kJ alR)
theorem Z8:jW OF:=sL SK
theorem alc(bV:iW cU.P cU.G (cW e) F w₀)(dj:il cU (cW e) F w₀):il OF (cW e) F w₀:=r7 (X:=NA) bV SK (ary bV dj) (kJ aei)
theorem abG:jW NY:=sL Z8
theorem auH(bV:iW cU.P cU.G (cW e) F w₀)(dj:il cU (cW e) F w₀):il NY (cW e) F w₀:=r7 (X:=OF) bV Z8 (alc bV dj) (kJ aiG)
theorem Vm:jW MR:=sL abG
theorem adR(bV:iW cU.P cU.G (cW e) F w₀)(dj:il cU (cW e) F w₀):il MR (cW e) F w₀:=r7 (X:=NY) bV abG (auH bV dj) (kJ auz)
theorem anQ:jW PU:=sL Vm
theorem auI(bV:iW cU.P cU.G (cW e) F w₀)(dj:il cU (cW e) F w₀):il PU (cW e) F w₀:=r7 (X:=MR) bV Vm (adR bV dj) (kJ amS)
theorem apF(bV:iW cU.P cU.G (cW e) F w₀)(dj:il cU (cW e) F w₀){w:ao}(aq:au F w₀ [] w):Calls cU.P 4 #[] w (fun dG ar=>dG=.returned (.bool true)∧au F w₀ [] ar):=by
 have aH:=auC;unfold abc at aH;split at aH
 ·rename_i x af;have aB:au F w₀ (bP cU.P (cW e) ⟨fun _=>0,fun _=>0⟩ .leaf::[]) w:=⟨aq.b6,aq.lt,fun _=>False,⟨fun _ _=>False,⟨fun id o av=>(by rw[T.oO] at av;cases av),⟨fun _ _ _ h=>h,⟨fun _ _ _ h _=>h.elim,fun k=>⟨fun h=>h.elim,fun⟨_,h⟩=>h⟩⟩⟩⟩⟩,fun k h=>h.elim,trivial⟩;obtain⟨_,k2⟩:=Ci (X:=PU) (e:=cW e) (F:=F) (w₀:=w₀) bV anQ (auI bV dj) 200 (.func 4) [] ⟨0,.leaf⟩ [x] ⟨fun _=>0,fun _=>0⟩ [] w af (fun id o av=>by rw[T.oO] at av;cases av) rfl rfl aB;refine Calls.mono k2 (fun dG ar ⟨y,aF,r,bn,a1,eT,_,_,_,_,Fw,Dv⟩=>?_);rw[hK] at eT;have bu:=rp _ _ aH;have bD:r=.b true:=by rw[bu,←eT]
  rw[aF,Dv,bD];exact⟨I,Fw.tail⟩
 ·cases aH
end
end Go.Proofs.YtcgjepodnfjggaaGreatDoor
end
section
namespace Go.Proofs.YtcgjepodnfjggaaGreatDoor
open Go Go.a6 Go.In Go.cv jm
set_option maxRecDepth 100000
theorem KX{c0:Nat}{w:ao}(h:Has (Yq c0) w):∃x:qw,x.q.p0 11 3∧Has (jA c0 11 3 96 x) w:=let ⟨D,⟨x,aa,ab⟩,an⟩:=h;⟨x,aa,D,ab,an⟩
section
variable{e:Nat→Addr}{v a1:cu}{n:Nat}{w ar:ao}{F:Nat→Prop}{w₀:ao}{R:List bi}{σ:Mem}{outs:List (ai×Mem)}{x:ai}
theorem atk{k:Nat}(h:Mm x=some k):x=lM k∧k<256:=by
 unfold Mm at h;split at h
 ·rename_i m;cases ad:Nat.blt m 256 with
  |true=>rw[ad,cp] at h;obtain rfl:=er h;exact⟨I,ho ad⟩
  |false=>rw[ad] at h;cases h
 ·cases h
theorem TT{k:Nat}(h:HI x=some k):x=aS k∧True:=by
 unfold HI at h;split at h
 ·obtain rfl:=er h;exact⟨I,trivial⟩
 ·cases h
theorem wl{k:Int}(h:tt x=some k):x=lA k:=by
 unfold tt at h;split at h
 ·obtain rfl:=er h;rfl
 ·cases h
theorem K6{f:ai→eu}{g:Nat→ai}{p:Nat→Prop}(aI:∀{x:ai} {n:Nat},f x=some n→x=g n∧p n):∀{l:List ai} {fM:ae},JA f l=some fM→l=fM.map g∧∀n∈fM,p n
 |[],fM,h=>by obtain rfl:=er h;exact⟨I,fun _ h=>by cases h⟩
 |x::l,fM,h=>by
  have h:(f x).bind (fun n=>(JA f l).map (n:: ·))=some fM:=h;obtain⟨k,aa,ab⟩:=bC h;obtain⟨r,an,rfl⟩:=dH ab;obtain⟨k1,k2⟩:=aI aa;obtain⟨bx,cl⟩:=K6 aI an;refine⟨by rw[k1,bx];rfl,fun m hm=>?_⟩;rcases ei.1 hm with rfl|hm
  ·exact k2
  ·exact cl m hm
theorem acJ{A:aN}{m c:Nat}{dG:dB}(ag:s4 x=true)(ad:Go.In.bM v n x=true)(aH:aT dG v x=.slice A m c):m≤c:=by
 unfold s4 at ag;split at ag
 ·injection aH with bu bD dl;subst bD;subst dl;exact ho ag
 ·simp only[Go.In.bM,b7] at ad;have:=ho ad.2;injection aH with bu bD dl;omega
 ·injection aH with bu bD dl;omega
 ·injection aH with bu bD dl;omega
 ·cases ag
theorem wA{p:ae}(h:vh σ x=some p)(ad:Go.In.bM v σ.n x=true)(aq:au F w₀ (bP Tryz.prog (cW e) v σ.h::R) w):∃A c,aT (cW e) v x=.slice A p.length c∧p.length≤c∧(∀z∈p,z<256)∧Has (aP 1 A p.length (aA .u8 p)) w:=by
 unfold vh at h;cases ag:s4 x with
 |false=>rw[ag] at h;cases h
 |true=>
  rw[ag,cp] at h;obtain⟨l,aa,ab⟩:=bC h;obtain⟨k1,k2⟩:=K6 atk ab;obtain⟨A,m,c,eT,hh,ia,jd⟩:=Xy (e:=cW e) (v:=v) (by decide) aa aq;have hm:m=p.length:=by rw[k1,iK,dJ] at ia;exact ia.symm
  subst hm;rw[k1,x0] at jd;exact⟨A,c,eT,acJ ag ad eT,k2,jd⟩
theorem anS{p:ae}(h:Ow σ x=some p)(ad:Go.In.bM v σ.n x=true)(aq:au F w₀ (bP Tryz.prog (cW e) v σ.h::R) w):∃A c,aT (cW e) v x=.slice A p.length c∧p.length≤c∧Has (aP 1 A p.length (aA .i64 p)) w:=by
 unfold Ow at h;cases ag:s4 x with
 |false=>rw[ag] at h;cases h
 |true=>
  rw[ag,cp] at h;obtain⟨l,aa,ab⟩:=bC h;obtain⟨k1,_⟩:=K6 TT ab;obtain⟨A,m,c,eT,hh,ia,jd⟩:=Xy (e:=cW e) (v:=v) (by decide) aa aq;have hm:m=p.length:=by rw[k1,iK,dJ] at ia;exact ia.symm
  subst hm;rw[k1,vQ] at jd;exact⟨A,c,eT,acJ ag ad eT,jd⟩
theorem Mz{id:Nat}(h:ET σ x=some id):x=.p id 0∧σ.h.get id=some (.la 0):=by
 unfold ET at h;split at h
 ·rename_i i o;cases ag:(Nat.beq o 0&&Kk σ i) with
  |false=>rw[ag] at h;cases h
  |true=>
   rw[ag,cp] at h;obtain rfl:=er h;rw[b7] at ag;obtain rfl:=dI ag.1;refine⟨I,?_⟩;have ab:=ag.2;unfold Kk at ab;split at ab
   ·rename_i k ah;rw[ah,dI ab]
   ·cases ab
 ·cases h
theorem VL{bU:Int×Int}(h:Gm x=some bU):x=.agg [lA bU.1,lA bU.2]:=by
 unfold Gm at h;split at h
 ·obtain⟨a,aa,ab⟩:=bC h;obtain⟨b,an,rfl⟩:=dH ab;rw[wl aa,wl an]
 ·cases h
theorem aiN{y:b5}(h:Pq x=some y):x=.agg (tD y):=by
 unfold Pq at h;split at h
 ·obtain⟨a,aa,h⟩:=bC h;obtain⟨b,ab,h⟩:=bC h;obtain⟨c,an,h⟩:=bC h;obtain⟨d,aK,h⟩:=bC h;obtain⟨q,bo,h⟩:=bC h;obtain⟨f,cd,rfl⟩:=dH h;rw[wl aa,wl ab,wl an,wl aK,wl bo,wl cd];rfl
 ·cases h
theorem JP:∀{a b:ae},qP a b=true→a=b
 |[],[],_=>rfl
 |[],_::_,h=>by cases h
 |_::_,[],h=>by cases h
 |x::a,y::b,h=>by
  simp only[qP,b7] at h;rw[dI h.1,JP h.2]
theorem XF:∀(a:ae),qP a a=true
 |[]=>rfl
 |x::a=>by show(Nat.beq x x&&qP a a)=true;rw[mb,XF a];rfl
theorem aos(a b:ae):qP a b=decide (a=b):=by
 cases h:qP a b with
 |true=>rw[ek (JP h)]
 |false=>rw[df (fun c6=>by rw[c6,XF] at h;cases h)]
theorem DA{l:List ai}:Go.In.bM v n (.fi l)=cA v n l:=by simp only[Go.In.bM]
theorem Bv{l:List ai}:Go.In.bM v n (.agg l)=cA v n l:=by simp only[Go.In.bM]
theorem AD{k:cg}{z:Int}:Go.In.bM v n (.i k z)=true:=by simp only[Go.In.bM]
theorem Dt:Go.In.bM v n .j0=true:=by simp only[Go.In.bM]
theorem Dr:Go.In.bM v n .ck=true:=by simp only[Go.In.bM]
theorem Bq{x:ai}{l:List ai}:cA v n (x::l)=(Go.In.bM v n x&&cA v n l):=by simp only[cA]
theorem BO:cA v n []=true:=by simp only[cA]
theorem nW{dG:dB}{l:List ai}:aT dG v (.fi l)=.tuple (bt dG v l).toArray:=by simp only[aT]
theorem n6{dG:dB}{l:List ai}:aT dG v (.agg l)=.agg (bt dG v l).toArray:=by simp only[aT]
theorem nw{dG:dB}{k:cg}{z:Int}:aT dG v (.i k z)=.int k z:=by simp only[aT]
theorem oa{dG:dB}:aT dG v .j0=.nilIface:=by simp only[aT]
theorem n8{dG:dB}:aT dG v .ck=.slice none 0 0:=by simp only[aT]
theorem nL{dG:dB}{x:ai}{l:List ai}:bt dG v (x::l)=aT dG v x::bt dG v l:=by simp only[bt]
theorem nQ{dG:dB}:bt dG v []=[]:=by simp only[bt]
theorem IC{dG:dB}{id o:Nat}:aT dG v (.p id o)=.pointer (some ⟨v.b4 id,o,none⟩):=by simp only[aT]
theorem PV{dG:dB}{id z o l:Nat}:aT dG v (.aP id z o l)=.slice (some ⟨v.b4 id,o*z,none⟩) l (v.gN id- o):=by simp only[aT]
abbrev nM(e:Nat→Addr)(F:Nat→Prop)(w₀:ao)(f:dn)(b:lO):Prop:=∀(args:List ai) (σ:Mem) (outs:List (ai×Mem)) (v:cu) (R:List bi) (w:ao),b args σ=some outs→ct v σ→cA v σ.n args=true→au F w₀ (bP Tryz.prog (cW e) v σ.h::R) w→
 Go.a6.aU Tryz.prog f∧Calls Tryz.prog f (bt (cW e) v args).toArray w (fun dG ar=>∃x,dG=.returned x∧hL Tryz.prog (cW e) F w₀ R v σ.n outs x ar)
def U5:nR:=⟨12,16,96,11,3,2,3,4,5⟩
theorem afU:bt (cW e) v [xj]=[U5.agg]:=by
 unfold xj aS;simp only[nW,n6,nw,oa,n8,nL,nQ];rfl
theorem aoo(bs:∀w,au F w₀ [] w→Has (lF e pE) w):nM e F w₀ 6 MZ:=by
 intro args σ outs v R w h hm ad aq;unfold MZ at h;cases ag:ai.kP args [xj] with
 |false=>rw[ag] at h;cases h
 |true=>
  rw[ag,cp] at h;obtain rfl:=er h;rw[qf _ _ ag];have hR:=Kj U5 11 3 96 16 e w Z9.2.2.1 (bs w aq.nothing) rfl rfl rfl Hu;refine xR inferInstance aq afU hR (fun z ar aL dq=>?_);refine ag7 (c:=0) (g:=z.1) (r:=.fi [.p σ.n 0,.j0]) hm ?_ ?_ (oh _) (au.si (fun w D ah=>⟨z.2,aL,ah⟩) dq)
  ·simp only[DA,Bv,AD,Dt,Dr,Bq,BO,adJ,pH]
  ·simp only[nW,n6,nw,oa,n8,nL,nQ,aho];rfl
theorem auS:nM e F w₀ 36 Ll:=by
 intro args σ outs v R w h hm ad aq;unfold Ll at h;split at h
 ·obtain⟨id,aa,rfl⟩:=dH h;obtain⟨rfl,bg⟩:=Mz aa;obtain⟨x,aM,ag⟩:=KX (Oa bg aq);have:=Y8 (v.b4 id) 11 3 96 x w Hu ag;rw[KL] at this;have iX:bt (cW e) v [.p id 0]=[.pointer (some ⟨v.b4 id,0,none⟩)]:=by simp only[nW,n6,nw,oa,n8,nL,nQ,IC]
  exact Bl inferInstance aq iX this (fun ar dq=>y5 (r:=aS 133) hm I I (oh _) dq)
 ·cases h
theorem aeJ:nM e F w₀ 7 Ms:=by
 intro args σ outs v R w h hm ad aq;unfold Ms at h;split at h
 ·rename_i p pl m x;obtain⟨id,aa,h⟩:=bC h;obtain⟨bU,ab,h⟩:=bC h;obtain⟨y,an,h⟩:=bC h;obtain⟨d,aK,h⟩:=bC h;cases ag:(y.ok&&Nat.beq d.length 96) with
  |false=>rw[ag] at h;cases h
  |true=>
   rw[ag,cp] at h;obtain rfl:=er h;rw[b7] at ag;obtain⟨aF,bc⟩:=ag;have bc:=dI bc;obtain⟨rfl,bg⟩:=Mz aa;obtain rfl:=VL ab;obtain rfl:=aiN an;simp only[cA,b7] at ad;obtain⟨A,c,eT,hh,ia,jd⟩:=wA aK ad.2.2.2.1 aq;obtain⟨q,aM,Nl⟩:=KX (Oa bg aq);have hR:=XQ (v.b4 id) 11 3 96 q bU.1 bU.2 y A d.length c d w Hu aM Nl ia bc jd aF;rw[←alG Ir ia,KL] at hR;have iX:bt (cW e) v [.p id 0,.agg [lA bU.1,lA bU.2],.agg (tD y),x]=[.pointer (some ⟨v.b4 id,0,none⟩),.agg #[.int .i64 bU.1,.int .i64 bU.2],y.agg,.slice A d.length c]:=by
    simp only[lA,tD,nW,n6,nw,oa,n8,nL,nQ,IC,eT];rfl
   refine xR inferInstance aq iX hR (fun z ar aL dq=>?_);refine yt (q:=z) hm (by decide) (E7 _) (x0 _) (fun g hle=>?_) (fun g kw=>?_) (oh _) dq
   ·have hle:133≤z.2:=hle;simp only[DA,Bv,AD,Dt,Dr,Bq,BO,wK hle,pH]
   ·obtain⟨gC,z2⟩:=z;simp only at kw;subst kw;simp only[nW,n6,nw,oa,n8,nL,nQ,xk];rfl
 ·cases h
theorem agP(c4:∀w,au F w₀ [] w→gI e w 10∧gI e w 0):nM e F w₀ 11 KK:=by
 intro args σ outs v R w h hm ad aq;unfold KK at h;split at h
 ·rename_i p pl x;obtain⟨id,aa,h⟩:=bC h;obtain⟨bU,ab,h⟩:=bC h;obtain⟨d,aK,h⟩:=bC h;cases ag:Nat.beq d.length 133 with
  |false=>rw[ag] at h;cases h
  |true=>
   rw[ag,cp] at h;obtain⟨r,aH,rfl⟩:=dH h;have bc:=dI ag;obtain⟨rfl,bg⟩:=Mz aa;obtain rfl:=VL ab;simp only[cA,b7] at ad;obtain⟨A,c,eT,hh,ia,jd⟩:=wA aK ad.2.2.1 aq;obtain⟨q,aM,Nl⟩:=KX (Oa bg aq);obtain⟨bu,bD⟩:=c4 w aq.nothing;have m3:d.length=96+32+aY 11 3:=by rw[KL];exact bc
   have hR:=Ma (v.b4 id) 11 3 96 q bU.1 bU.2 A d.length c d e w Hu Nl ia m3 hh jd bu bD;have rr:=atF Ir (S:=96) (by decide) (bad:=[zO]) m3 ia (fun z aL=>by rw[hK.1 aL];exact aoQ _ _) aH;rw[rr] at hR;have iX:bt (cW e) v [.p id 0,.agg [lA bU.1,lA bU.2],x]=[.pointer (some ⟨v.b4 id,0,none⟩),.agg #[.int .i64 bU.1,.int .i64 bU.2],.slice A d.length c]:=by
    simp only[lA,nW,n6,nw,oa,n8,nL,nQ,IC,eT]
   refine xR inferInstance aq iX hR (fun z ar aL dq=>?_);cases aW:r.d with
   |nil=>
    obtain rfl:=aL aW;refine y5 (r:=.fi [.agg (aS r.c::(tD r.m++[.ck,aS r.f])),.j0]) hm I ?_ ?_ dq.tail
    ·unfold ta.v;rw[aW];rfl
    ·unfold QT;rw[aW];exact oh _
   |cons a l=>
    refine yt (r:=.fi [.agg (aS r.c::(tD r.m++[.aP σ.n 1 0 r.d.length,aS r.f])),.j0]) (q:=z) (m:=r.d.length) (E:=5) (cs:=r.d.map lM) hm (by rw[aW];simp) (E7 _) (x0 _) (fun g hle=>?_) (fun g kw=>?_) ?_ dq
    ·simp only[tD,aS,lA,u9,uI,DA,Bv,AD,Dt,Dr,Bq,BO,wK hle,pH]
    ·obtain⟨gC,z2⟩:=z;simp only at kw;subst kw;simp only[tD,aS,lA,u9,uI,nW,n6,nw,oa,n8,nL,nQ,xk];rfl
    ·unfold QT;rw[aW];exact oh _
 ·cases h
theorem akV(bV:iW cU.P cU.G (cW e) F w₀):nM e F w₀ 41 PR:=by
 intro args σ outs v R w h hm ad aq;unfold PR at h;cases ag:ai.kP args [xj] with
 |false=>rw[ag] at h;cases h
 |true=>
  rw[ag,cp] at h;obtain rfl:=er h;rw[qf _ _ ag];obtain⟨k1,k2⟩:=Nc (X:=Gg) (v:=v) bV aoT (afs bV) aeC Zv (by unfold Mh;simp only[xj,aS,Bv,AD,Bq,BO,pH]) (Qv aq);refine⟨k1,Calls.mono k2 (fun dG ar ⟨a1,aa,_,ab⟩=>⟨_,aa,?_⟩)⟩;have an:=ab.o8 (id:=1276) (o:=.row 5 1 5 (Dh.map lM)) rfl;have aK:au F w₀ (own 5 1 (some ⟨a1.b4 1276,0,none⟩) 5 (a1.gN 1276) (bt (cW e) a1 (Dh.map lM))::bP Tryz.prog (cW e) v σ.h::R) ar:=⟨an.b6,an.lt,an.sep.swap.tail⟩;rw[x0] at aK;refine yt (q:=(some ⟨a1.b4 1276,0,none⟩,a1.gN 1276)) hm (by decide) (E7 _) (x0 _) (fun g hle=>?_) (fun g kw=>?_) (oh _) aK
  ·have hle:5≤a1.gN 1276:=hle;simp only[aS,DA,Bv,AD,Dt,Dr,Bq,BO,wK hle,pH]
  ·have bg:a1.b4 1276=g:=by injection kw with kw;injection kw
   unfold Mh;simp only[aS,nW,n6,nw,oa,n8,nL,nQ,xk];rw[PV,bg];rfl
theorem amY(h:F1 x=true):∃id,x=.agg [aS 11,aS 3,aS 128,.aP id 1 0 5,aS 33]:=by
 unfold F1 at h;split at h
 ·rename_i a b c id z o l d;simp only[b7] at h;obtain⟨aa,ab,an,aK⟩:=h;have aa:=qf _ _ aa;injection aa with k1 aa;injection aa with k2 aa;injection aa with bx aa;injection aa with cl aa;rw[k1,k2,bx,cl,dI ab,dI an,dI aK];exact⟨id,I⟩
 ·cases h
theorem apN:nM e F w₀ 219 RK:=by
 intro args σ outs v R w h hm ad aq;unfold RK at h;split at h
 ·rename_i ais x y;obtain⟨d,aa,h⟩:=bC h;obtain⟨p,ab,h⟩:=bC h;cases ag:(F1 ais&&(Nat.beq d.length 128&&qP (d++p) zO)) with
  |false=>rw[ag] at h;cases h
  |true=>
   rw[ag,cp] at h;obtain rfl:=er h;simp only[b7] at ag;obtain⟨l8,cR,tx⟩:=ag;obtain⟨id,rfl⟩:=amY l8;have bc:=dI cR;have Vv:=JP tx;have aW:d=Db:=by unfold Db;rw[←Vv,←bc];exact List.take_left.symm
   have aG:p=zZ:=by unfold zZ;rw[←Vv,←bc];exact List.drop_left.symm
   simp only[cA,b7] at ad;obtain⟨A,c,eT,hh,ia,jd⟩:=wA aa ad.2.1 aq;obtain⟨bw,c2,i1,i2,i3,i4⟩:=wA ab ad.2.2.1 aq;have iQ:p.length=5:=by rw[aG];decide+kernel
   have hR:=afv 11 3 128 (some ⟨v.b4 id,0,none⟩,v.gN id) A d.length c d bw p.length c2 p w NR (by decide) jd ia (by omega) hh i4 i3 (by omega) i2;have ahL:hc 11 3 (gi 11 3 d p (8*128+aR 11 3))=gz:=by rw[aW,aG,vw];exact ajT
   rw[ahL] at hR;have iX:bt (cW e) v [.agg [aS 11,aS 3,aS 128,.aP id 1 0 5,aS 33],x,y]=[.agg (sR 11 3 128 (some ⟨v.b4 id,0,none⟩,v.gN id)),.slice A d.length c,.slice bw p.length c2]:=by
    unfold sR;rw[aia,vw];simp only[aS,nW,n6,nw,oa,n8,nL,nQ,PV,eT,i1,jc,nk];rfl
   refine xR inferInstance aq iX hR (fun z ar aL dq=>?_);refine yt (q:=z) hm (by decide) (CQ _) (vQ _) (fun g hle=>?_) (fun g kw=>?_) (oh _) dq
   ·have hle:6≤z.2:=hle;exact wK hle
   ·obtain⟨gC,z2⟩:=z;simp only at kw;subst kw;rw[xk];rfl
 ·cases h
theorem ath{id:Nat}{o:bQ}(h:wJ σ id o=true):σ.h.get id=some o:=by
 unfold wJ at h;split at h
 ·rename_i kO av;rw[av,←Ri h]
 ·cases h
theorem aij(bV:iW cU.P cU.G (cW e) F w₀):nM e F w₀ 222 L6:=by
 intro args σ outs v R w h hm ad aq;unfold L6 at h;split at h
 ·rename_i m id sz lo len;cases ag:(ai.eqv m (aS 11)&&(ai.eqv (.aP id sz lo len) (.aP id 1 0 6)&&wJ σ id (AR gz))) with
  |false=>rw[ag] at h;cases h
  |true=>
   rw[ag,cp] at h;obtain rfl:=er h;simp only[b7] at ag;obtain⟨l8,cR,tx⟩:=ag;obtain rfl:=rp _ _ l8;have cR:=rp _ _ cR;have SA:=ath tx;rw[cR] at ad⊢;have RA:6≤v.gN id:=by
    simp only[cA,Go.In.bM,b7] at ad;have:=ho ad.2.1.2;omega
   have aH:∀v1 v2:cu,bt (cW e) v1 (gz.map aS)=bt (cW e) v2 (gz.map aS):=fun v1 v2=>by rw[vQ,vQ]
   obtain⟨k1,k2⟩:=Nc (X:=ny) (v:=⟨fun _=>v.b4 id,fun _=>v.gN id⟩) (q:=CE) bV Jp NJ akQ (fun i o av=>by
    rw[show CE.h=T.leaf.put 0 (AR gz) from rfl,T.oZ] at av;split at av
    ·rename_i aB;obtain rfl:=er av;exact⟨by rw[aB];decide,CQ _⟩
    ·rw[T.oO] at av;cases av) (by
     show cA _ 1 [aS 11,.aP 0 1 0 6]=true;simp only[cA,aS,Go.In.bM,Fg,mU,b7];exact⟨by decide,rV RA⟩) (ajB (E:=3) (m:=6) (cs:=gz.map aS) SA I I (aH _ _) aq)
   refine⟨k1,?_⟩;have iX:bt (cW e) ⟨fun _=>v.b4 id,fun _=>v.gN id⟩ CE.args=bt (cW e) v [aS 11,.aP id 1 0 6]:=by
    show bt (cW e) _ [aS 11,.aP 0 1 0 6]=_;simp only[aS,bt,aT]
   rw[iX] at k2;refine Calls.mono k2 (fun dG ar ⟨a1,aa,af,ab⟩=>⟨_,aa,?_⟩);obtain⟨jf,jo⟩:=af 0 (by decide);have aK:=aiF (pI:=3) (fN:=4) (dW:=mv.map aS) (k:=71) SA jf jo (aH _ _) rfl (by decide) rfl ab;rw[vQ] at aK;refine yt (q:=(some ⟨a1.b4 71,0,none⟩,a1.gN 71)) (m:=4) hm (by decide) (CQ _) (vQ _) (fun g hle=>?_) (fun g kw=>?_) (oh _) aK
   ·have hle:4≤a1.gN 71:=hle;simp only[aS,DA,Bv,AD,Dt,Dr,Bq,BO,wK hle,pH]
   ·have bg:a1.b4 71=g:=by injection kw with kw;injection kw
    unfold CE;simp only[aS,nW,n6,nw,oa,n8,nL,nQ,xk];rw[PV,bg];rfl
 ·cases h
theorem apM:nM e F w₀ 223 NP:=by
 intro args σ outs v R w h hm ad aq;unfold NP at h;split at h
 ·rename_i m x k;obtain⟨d,aa,h⟩:=bC h;cases ag:(ai.kP [m,k] [aS 11,aS 1057]&&qP d mv) with
  |false=>rw[ag] at h;cases h
  |true=>
   rw[ag,cp] at h;obtain rfl:=er h;simp only[b7] at ag;obtain⟨l8,cR⟩:=ag;have l8:=qf _ _ l8;injection l8 with k1 l8;injection l8 with k2 l8;subst k1;subst k2;obtain rfl:=JP cR;simp only[cA,b7] at ad;obtain⟨A,c,eT,hh,jd⟩:=anS aa ad.2.1 aq;have hR:=ao3 11 A c (dR mv) ((1057:Nat):Int) w tw (by rw[GJ,qh];exact jd) (by decide) (by rw[qh];exact hh);rw[show(min ((1057:Nat):Int) (N 11:Nat)).toNat=1057 by decide+kernel,Yw,qh] at hR;have iX:bt (cW e) v [aS 11,x,aS 1057]=[.int .i64 ((11:Nat):Int),.slice A mv.length c,.int .i64 ((1057:Nat):Int)]:=by
    simp only[lA,tD,nW,n6,nw,oa,n8,nL,nQ,IC,eT];rfl
   refine xR inferInstance aq iX hR (fun z ar aL dq=>?_);obtain⟨gC,z2⟩:=z;cases gC with
   |none=>
    have oe:z2=0:=by
     obtain⟨D,⟨⟨_,ab⟩,_⟩,_⟩:=dq.has (i:=0) rfl;rcases ab with⟨ab,_⟩|⟨g,cap,cur,ab,_⟩
     ·injection ab
     ·injection ab with ab;cases ab
    subst oe;refine⟨.ck,⟨σ.n+1,σ.h⟩,v,by simp,ds.refl _ _,k5 _,fun id o av=>?_,I,dq.tail,I⟩;obtain⟨k1,k2⟩:=hm id o av;exact⟨JM k1,IM (k5 _) k2⟩
   |some a=>
    have aj:∃g,a=⟨g,0,none⟩:=by
     obtain⟨D,⟨⟨_,ab⟩,_⟩,_⟩:=dq.has (i:=0) rfl;rcases ab with⟨ab,_⟩|⟨g,cap,cur,ab,_⟩
     ·injection ab with ab;cases ab
     ·injection ab with ab;injection ab with ab;exact⟨g,ab⟩
    obtain⟨g,rfl⟩:=aj;refine Vw (E:=3) (sz:=1) (m:=0) (c:=z2) (g:=g) (cs:=[]) (r:=.aP σ.n 1 0 0) hm I ?_ ?_ (by simp) dq
    ·exact wK (dg _)
    ·rw[xk];rfl
 ·cases h
theorem atq:nM e F w₀ 27 Mg:=by
 intro args σ outs v R w h hm ad aq;unfold Mg at h;split at h
 ·rename_i x;obtain⟨k,aa,h⟩:=bC h;cases ag:(Nat.blt 0 k&&Nat.ble k 4096) with
  |false=>rw[ag] at h;cases h
  |true=>
   rw[ag,cp] at h;obtain rfl:=er h;simp only[b7] at ag;have ka:0<k:=ho ag.1;have jx:=ho ag.2;obtain⟨rfl,_⟩:=TT aa;have hR:=Xa k w ka jx;unfold G5 at hR;rw[jI] at hR;have iX:bt (cW e) v [aS k]=[.int .i64 (k:Nat)]:=by unfold aS;simp only[nW,n6,nw,oa,n8,nL,nQ];rfl
   refine xR inferInstance aq iX hR (fun z ar aL dq=>?_);refine yt (q:=z) (m:=k) (r:=.aP σ.n 1 0 k) hm (by omega) (E7 _) (x0 _) (fun g hle=>wK hle) (fun g kw=>?_) (oh _) dq;obtain⟨gC,z2⟩:=z;simp only at kw;subst kw;rw[xk]
 ·cases h
theorem aiK:nM e F w₀ 68 BY:=by
 intro args σ outs v R w h hm ad aq;unfold BY at h;split at h
 ·rename_i x;obtain⟨d,aa,h⟩:=bC h;cases ag:Nat.ble d.length 1000000 with
  |false=>rw[ag] at h;cases h
  |true=>
   rw[ag,cp] at h;obtain rfl:=er h;simp only[cA,b7] at ad;obtain⟨A,c,eT,hh,ia,jd⟩:=wA aa ad.1 aq;have hR:=LJ A d.length c d w ia (ho ag) jd;rw[←Rm Ir] at hR;have iX:bt (cW e) v [x]=[.slice A d.length c]:=by simp only[nW,n6,nw,oa,n8,nL,nQ,eT]
   exact Bl inferInstance aq iX hR (fun ar dq=>y5 hm I I (oh _) dq)
 ·cases h
theorem aoL:nM e F w₀ 159 BY:=by
 intro args σ outs v R w h hm ad aq;unfold BY at h;split at h
 ·rename_i x;obtain⟨d,aa,h⟩:=bC h;cases ag:Nat.ble d.length 1000000 with
  |false=>rw[ag] at h;cases h
  |true=>
   rw[ag,cp] at h;obtain rfl:=er h;simp only[cA,b7] at ad;obtain⟨A,c,eT,hh,ia,jd⟩:=wA aa ad.1 aq;have hR:=af9 A d.length c d w ia (ho ag) jd;rw[←Rm Ir] at hR;have iX:bt (cW e) v [x]=[.slice A d.length c]:=by simp only[nW,n6,nw,oa,n8,nL,nQ,eT]
   exact Bl inferInstance aq iX hR (fun ar dq=>y5 hm I I (oh _) dq)
 ·cases h
theorem afR(x:Nat):Qp x=hG x:=by
 unfold Qp hG;by_cases h:x=0
 ·subst h;rfl
 ·rw[az h,Go.a6.iT h,eO]
theorem ac5:nM e F w₀ 371 zI:=by
 intro args σ outs v R w h hm ad aq;unfold zI at h;split at h
 ·rename_i x;cases ag:Nat.blt x 18446744073709551616 with
  |false=>rw[ag] at h;cases h
  |true=>
   rw[ag,cp] at h;obtain rfl:=er h;have hR:=apq x w (ho ag);rw[←afR] at hR;have iX:bt (cW e) v [.i .u64 (.ofNat x)]=[.int .u64 (x:Nat)]:=by simp only[nW,n6,nw,oa,n8,nL,nQ];rfl
   exact Bl inferInstance aq iX hR (fun ar dq=>y5 hm I I (oh _) dq)
 ·cases h
theorem ain:nM e F w₀ 13 Ni:=by
 intro args σ outs v R w h hm ad aq;unfold Ni at h;split at h
 ·rename_i x y;obtain⟨d,aa,h⟩:=bC h;obtain⟨p,ab,rfl⟩:=dH h;simp only[cA,b7] at ad;obtain⟨A,c,eT,hh,ia,jd⟩:=wA aa ad.1 aq;obtain⟨bw,c2,i1,i2,i3,i4⟩:=wA ab ad.2.1 aq;have hR:=P2 A d.length c d bw p.length c2 p w jd ia i4 i3;rw[←aos] at hR;have iX:bt (cW e) v [x,y]=[.slice A d.length c,.slice bw p.length c2]:=by simp only[nW,n6,nw,oa,n8,nL,nQ,eT,i1]
  exact Bl inferInstance aq iX hR (fun ar dq=>y5 hm I I (oh _) dq)
 ·cases h
theorem aiw(bV:iW cU.P cU.G (cW e) F w₀)(bs:∀w,au F w₀ [] w→Has (lF e pE) w)(c4:∀w,au F w₀ [] w→gI e w 10∧gI e w 0):il cU (cW e) F w₀:=by
 intro f b ad;have ad:Ks f=some b:=ad;unfold Ks at ad;have step:∀{k:Nat} {c:lO} {r:Option lO},(bif Nat.beq f k then some c else r)=some b→(nM e F w₀ k c)→(r=some b→nM e F w₀ f b)→nM e F w₀ f b:=by
  intro k c r aa ab an;cases aM:Nat.beq f k with
  |false=>rw[aM] at aa;exact an aa
  |true=>
   rw[aM,cp] at aa;obtain rfl:=er aa;obtain rfl:=dI aM;exact ab
 exact step ad (aoo bs) fun ad=>step ad auS fun ad=>step ad aeJ fun ad=>step ad (agP c4) fun ad=>step ad (akV bV) fun ad=>step ad apN fun ad=>step ad (aij bV) fun ad=>step ad apM fun ad=>step ad atq fun ad=>step ad aiK fun ad=>step ad aoL fun ad=>step ad ac5 fun ad=>step ad ain fun ad=>by cases ad
end
end Go.Proofs.YtcgjepodnfjggaaGreatDoor
end
section
namespace Go.Proofs.YtcgjepodnfjggaaGreatDoor
open Go Go.a6 Go.In
theorem asg(e:Nat→Addr)(w:ao)(he:Has (lF e pE) w):cC Tryz.prog 4 [] w (.bool true):=by
 have bV:=YO he;exact apF bV (aiw bV (fun ar hw=>hw.a7 he) (fun ar hw=>⟨(hw.a7 he).jt (by decide+kernel),(hw.a7 he).jt (by decide+kernel)⟩)) (au.start w)
end Go.Proofs.YtcgjepodnfjggaaGreatDoor
end
section
namespace Go.Proofs.YtcgjepodnfjggaaGreatDoor
open Go Go.a6 Go.cv
theorem adU(a:Int)(e:Nat→Addr):∃n,vn e (qM a) n:=by
 have aB:=ng a (b:=4) (by omega);have aa:=tV a (show(0:Int)<4 by omega);obtain⟨n7,s1,s2,mm⟩:=Z9 (e:=e);unfold qM;rcases(show(a%4).toNat=0∨(a%4).toNat=1∨(a%4).toNat=2∨(a%4).toNat=3 by omega) with h|h|h|h<;>rw[h]
 ·exact⟨_,n7⟩
 ·exact⟨_,s1⟩
 ·exact⟨_,s2⟩
 ·exact⟨_,mm⟩
theorem ar9(a0:Int)(y:b5)(kt:aN)(gO kp:Nat)(cT:ae)(fo:aN)(fc dO:Nat)(aC:b3)(bw:aN)(cD c2:Nat)(l2:b3)(e:Nat→Addr)(w:ao)(h9:Has (aP 1 kt gO (aA .u8 cT)) w)(iu:∀x∈cT,x<256)(qD:gO≤9223372036854775807)(_hcp0:gO≤kp)(nr:Has (aP 1 fo fc (ints .i64 aC)) w)(qZ:fc≤9223372036854775807)(eU:Has (aP 1 bw cD (ints .i64 l2)) w)(eX:cD≤9223372036854775807)(he:Has (lF e pE) w):
  cC Tryz.prog 3 [.int .i64 a0,y.agg,.slice kt gO kp,.slice fo fc dO,.slice bw cD c2] w (.bool true):=by
 have ox:∀aZ,bF w [] aZ→cC Tryz.prog 4 [] aZ (.bool true):=fun aZ ab=>asg e aZ (ab.a7 he);by_cases aB:200<gO
 ·exact akB a0 y kt gO kp cT fo fc dO aC bw cD c2 l2 e w ox he h9 iu qD nr qZ eU eX _ I aB
 by_cases aa:20<fc
 ·exact adE a0 y kt gO kp cT fo fc dO aC bw cD c2 l2 e w ox he h9 iu qD nr qZ eU eX _ I (by omega) aa
 by_cases ab:20<cD
 ·exact ai3 a0 y kt gO kp cT fo fc dO aC bw cD c2 l2 e w ox he h9 iu qD nr qZ eU eX _ I (by omega) (by omega) ab
 obtain⟨m,t,s,g1,g2,g3,g4,g6,g7,g8,g9⟩:=aep a0;obtain⟨fM,g5⟩:=adU a0 e;cases aF:y.ok with
 |false=>exact adS a0 y kt gO kp cT fo fc dO aC bw cD c2 l2 e w ox he h9 iu qD nr qZ eU eX _ rfl m t s g1 g2 g3 g4 fM g5 g6 g7 g8 g9 (by omega) (by omega) (by omega) aF
 |true=>exact alb a0 y kt gO kp cT fo fc dO aC bw cD c2 l2 e w ox he h9 iu qD nr qZ eU eX _ rfl m t s g1 g2 g3 g4 fM g5 g6 g7 g8 g9 (by omega) (by omega) (by omega) aF
end Go.Proofs.YtcgjepodnfjggaaGreatDoor
end
