/- The walk of the statement WholeCodes, text 35. Conditions: each theorem tells its own. -/
import Derived.Test.YtcgjepodnfjggaaGreatDoorWWholeCodesE
set_option linter.all false
section
namespace Go.Proofs.YtcgjepodnfjggaaGreatDoor
open Go Go.a6 Go.cv jm
set_option maxRecDepth 100000
theorem tw:Ok 11:=⟨by decide,by decide⟩
theorem NR:e3 11 3:=⟨tw,by decide,by decide⟩
def ak8:ae:=[1,0,1,1,1,1,1,0,0,1,1,1,0,1,1,0,0,1,0,1,0,0,0,1,1,1,1,1,0,1,1,0,0,1]
theorem LQ:cK 11 (b0 11 3).1=ak8:=by decide+kernel
theorem vw:aR 11 3=33:=by unfold aR;rw[LQ];rfl
theorem aia:fw 11 3=Dh:=by unfold fw;rw[LQ];decide+kernel
theorem akr:hM (ap (cK 11 (b0 11 3).1)) 33=Hc:=by rw[LQ];decide+kernel
theorem Ir:aak 11 3 33 Hc 5:=⟨NR,vw,akr,rfl⟩
theorem KL:aY 11 3=5:=by unfold aY;rw[vw]
theorem Hu:mZ 11 3 96:=⟨NR,by decide,by decide,by rw[vw];decide⟩
def Db:ae:=zO.take 128
def zZ:ae:=zO.drop 128
def JN(d p:ae)(n:Nat):ae:=(List.range n).map (fun k=>bif Nat.blt k 33 then cz p k else cz d (k- 33))
theorem af4(d p:ae)(n:Nat):th 11 3 d p n=JN d p n:=by
 unfold th fy JN;refine m1 (fun k _=>?_);unfold fT;rw[vw];by_cases h:k<33
 ·rw[aD h,show Nat.blt k 33=true from rV h,cp]
 ·rw[az h,show Nat.blt k 33=false from by
   cases ad:Nat.blt k 33 with
   |false=>rfl
   |true=>exact absurd (ho ad) h,eO]
theorem afT(d p:ae)(n i:Nat):gh 11 (gi 11 3 d p n) i=cM 11 (JN d p n) (bY 11 (i:Nat)):=by
 rw[←abV tw];unfold br;rw[IB,af4]
theorem Z4{d p:ae}{n:Nat}(h:(List.range 6).map (fun i=>cM 11 (JN d p n) (bY 11 ((i+1:Nat):Int)))=gz):hc 11 3 (gi 11 3 d p n)=gz:=by
 rw[←h];unfold hc fy;exact m1 (fun i _=>afT d p n (i+1))
theorem ajT:hc 11 3 (gi 11 3 Db zZ 1057)=gz:=Z4 (by decide+kernel)
theorem ao9:bj 11 3 zZ=[255,255,255,255,1]:=by
 unfold bj;rw[vw];decide+kernel
theorem ahx:bh 11 3 128 Db (bj 11 3 zZ)=gz:=by
 unfold bh;rw[ao9,vw];exact Z4 (by decide+kernel)
theorem Jh{x y:Nat}(af:x<2^11)(aB:x≠0)(aF:y<2^11)(h:ba 11 x y=1):inv 11 x=y:=by
 have aa:=EE tw af aB;have hi:=ph tw x;have e:ba 11 (inv 11 x) (ba 11 x y)=ba 11 (ba 11 (inv 11 x) x) y:=(h0 tw hi af aF).symm;rw[h,ur tw hi,kH tw hi af,aa,l5 tw aF] at e;exact e
theorem inv1:inv 11 1=1:=Jh (by decide) (by decide) (by decide) (by decide+kernel)
theorem arV:inv 11 1037=1517:=Jh (by decide) (by decide) (by decide) (by decide+kernel)
theorem ak4:inv 11 809=1653:=Jh (by decide) (by decide) (by decide) (by decide+kernel)
theorem inv2:inv 11 2=1026:=Jh (by decide) (by decide) (by decide) (by decide+kernel)
theorem atV:cx 11 (dL 11) gz 0=⟨[1],[1],0,1,1⟩:=rfl
theorem apP:cx 11 (dL 11) gz 1=⟨[1,1037],[1],1,1,1037⟩:=by
 show lH 11 (dL 11) gz (cx 11 (dL 11) gz 0) 0=_;rw[atV];unfold lH dL;rw[az (by decide+kernel),az (by decide+kernel)];simp only[inv1]
 kernel_rfl
theorem ajg:cx 11 (dL 11) gz 2=⟨[1,1037],[1],1,2,1037⟩:=by
 show lH 11 (dL 11) gz (cx 11 (dL 11) gz 1) 1=_;rw[apP];unfold lH;rw[aD (by decide+kernel)]
theorem ala:cx 11 (dL 11) gz 3=⟨[1,1037,1697],[1,1037],2,1,809⟩:=by
 show lH 11 (dL 11) gz (cx 11 (dL 11) gz 2) 2=_;rw[ajg];unfold lH dL;rw[az (by decide+kernel),az (by decide+kernel)];simp only[arV]
 kernel_rfl
theorem aku:cx 11 (dL 11) gz 4=⟨[1,1037,1697],[1,1037],2,2,809⟩:=by
 show lH 11 (dL 11) gz (cx 11 (dL 11) gz 3) 3=_;rw[ala];unfold lH;rw[aD (by decide+kernel)]
theorem afY:cx 11 (dL 11) gz 5=⟨mv,[1,1037,1697],3,1,157⟩:=by
 show lH 11 (dL 11) gz (cx 11 (dL 11) gz 4) 4=_;rw[aku];unfold lH dL;rw[az (by decide+kernel),az (by decide+kernel)];simp only[ak4]
 kernel_rfl
theorem anR:cx 11 (dL 11) gz 6=⟨mv,[1,1037,1697],3,2,157⟩:=by
 show lH 11 (dL 11) gz (cx 11 (dL 11) gz 5) 5=_;rw[afY];unfold lH;rw[aD (by decide+kernel)]
theorem amp:cx 11 (dL 11) (bz 11 ((dR gz).take 80)) (min (dR gz).length 80)=⟨mv,[1,1037,1697],3,2,157⟩:=by
 rw[show bz 11 ((dR gz).take 80)=gz by decide+kernel,show min (dR gz).length 80=6 by decide+kernel];exact anR
def Jg(c:ae):Nat→Nat→Bool
 |0,_=>true
 |n+1,x=> !Nat.beq (cM 11 c x) 0&&Jg c n (ba 11 x 1026)
theorem abJ(c:ae):∀(n i:Nat),Jg c n (tU 11 i)=true→∀j,j<n→cM 11 c (tU 11 (i+j))≠0
 |0,_,_,j,h=>absurd h (by omega)
 |n+1,i,h,j,ax=>by
  simp only[Jg,b7] at h;cases j with
  |zero=>
   intro aB;rw[wW] at aB;rw[aB] at h;exact absurd h.1 (by decide)
  |succ j=>
   have e:ba 11 (tU 11 i) 1026=tU 11 (i+1):=by
    show _=ba 11 (tU 11 i) (inv 11 2);rw[inv2]
   rw[e] at h;have:=abJ c n (i+1) h.2 j (by omega);rw[show i+1+j=i+(j+1) by omega] at this;exact this
theorem Yw:gM (fR 11 (bz 11 (dR mv))) 1057=[]:=by
 have bc:bz 11 (dR mv)=mv:=by decide+kernel
 rw[bc];unfold gM;rw[List.filter_eq_nil_iff];intro k ah;rw[pT] at ah;have h:=abJ mv 1057 0 (by show Jg mv 1057 1=true;decide+kernel) k ah;rw[iO,Cn tw] at h;simpa[fR] using h
theorem amy:hF 11 3 128 Db (bj 11 3 zZ)=none:=by
 unfold hF;rw[ahx];have ad:bK 11 gz=⟨mv,[1,1037,1697],3,2,157⟩:=by
  unfold bK;have h:=amp;rw[qh] at h;exact h
 have aG:cV 11 3 128 mv=[]:=by
  unfold cV;rw[vw,show(min ((8*128+33:Nat):Int) (N 11:Nat)).toNat=1057 by decide+kernel];exact Yw
 rw[az (by decide+kernel),ad];rw[az (by decide+kernel)];show(if(cV 11 3 128 mv).length≠3 then _ else _)=_;rw[aG];rfl
theorem aoQ(b k:Int):nb 11 3 96 b k zO=rh 3:=Vt (by decide+kernel) amy
end Go.Proofs.YtcgjepodnfjggaaGreatDoor
end
