/- The walk of the statement WholeCodes, text 1. Conditions: each theorem tells its own. -/
import Derived.OrdersHeld
import Derived.WalkKit
import Derived.Maps.AppendAt
import Derived.LaidEql
import Derived.Test.YtcgjepodnfjggaaGreatDoorProg
import Derived.Test.YtcgjepodnfjggaaGreatDoorRows
import Derived.LaidLaws
import Derived.ProofKit
import Derived.OpenShut
import Derived.Deep.DeepHandedRow
import Derived.Deep.DeepWitnessRowRef
import Derived.Laws.CopyRow
import Derived.ChangeSlices
import Derived.WideShapes
set_option linter.all false
section
theorem I.{u}{α:Sort u}{a:α}:a=a:=rfl
abbrev cw:=List Go.Value
abbrev aN:=Option Go.Addr
abbrev ae:=List Nat
abbrev cJ:=Array Go.Value
abbrev eu:=Option Nat
abbrev ao:=Go.World
abbrev a8:=Go.Program
abbrev aO:=Go.TypeId
abbrev cg:=Go.IntKind
abbrev bf:=Go.Operand
abbrev aV:=Go.Value
abbrev fj:=Go.Deferred
abbrev dn:=Go.FuncId
abbrev b3:=List Int
def az:=@if_neg
def aD:=@if_pos
def b7:=@Bool.and_eq_true
def cp:=@cond_true
def cq:=@Nat.le_refl
def df:=@decide_eq_false
def dg:=@Nat.zero_le
def dI:=@Nat.eq_of_beq_eq_true
def dJ:=@Nat.mul_one
def eb:=@Option.some.injEq
def ee:=@List.length_append
def ei:=@List.mem_cons
def ek:=@decide_eq_true
def er:=@Option.some.inj
def eF:=@List.getElem?_eq_getElem
def eI:=@Nat.two_pow_pos
def eO:=@cond_false
def eS:=@Nat.xor_zero
def eQ:=@List.mem_cons_of_mem
def eM:=@List.getD_eq_getElem?_getD
def fs:=@Prod.mk.injEq
def fV:=@Nat.mod_lt
def fW:=@List.length_take
def fX:=@List.mem_cons_self
def gF:=@of_decide_eq_true
def gv:=@Option.map_some
def gE:=@List.mem_map
def ho:=@Nat.le_of_ble_eq_true
def hK:=@List.mem_singleton
def hI:=@List.mem_append
def hW:=@List.map_cons
def hQ:=@Nat.zero_xor
def h5:=@Nat.xor_assoc
def h6:=@Nat.lt_of_lt_of_le
def iq:=@List.getElem?_eq_none
def iG:=@List.length_cons
def iF:=@List.mem_of_getElem?
def iO:=@Nat.zero_add
def iK:=@List.length_map
def jc:=@Nat.zero_mul
def jj:=@List.getElem?_map
def jB:=@List.ext_getElem?
def jp:=@Nat.shiftRight_eq_div_pow
def jy:=@Nat.xor_self
def jU:=@if_true
def jG:=@of_decide_eq_false
def jK:=@Int.toNat_natCast
def jI:=@List.length_replicate
def kg:=@Option.getD_some
def j6:=@List.getElem?_eq_some_iff
def kx:=@Nat.min_eq_left
def kS:=@List.eq_nil_of_length_eq_zero
def k3:=@Nat.lt_succ_self
def k5:=@Nat.le_succ
def lm:=@List.map_nil
def lf:=@List.all_eq_true
def ll:=@Nat.mod_eq_of_lt
def lU:=@Nat.lt_of_le_of_lt
def mb:=@Nat.beq_refl
def mh:=@Array.ext'
def mj:=@List.getElem?_take
def mg:=@List.getElem?_append_right
def mL:=@List.mem_filter
def nk:=@Nat.sub_zero
def ng:=@Int.emod_nonneg
def mR:=@Nat.xor_lt_two_pow
def m4:=@List.take_length
def m1:=@List.map_congr_left
def m8:=@Classical.byContradiction
def mU:=@Bool.true_and
def m9:=@List.length_set
def n4:=@Ne.symm
def nV:=@Nat.le_of_not_lt
def nE:=@List.getElem?_append_left
def nK:=@List.append_nil
def n9:=@List.mem_of_mem_take
def n3:=@List.map_append
def oy:=@if_false
def oV:=@Array.toList_map
def oH:=@List.map_toArray
def oR:=@Nat.xor_comm
def ol:=@List.length_singleton
def oh:=@List.mem_singleton_self
def o9:=@List.map_map
def px:=@Nat.pow_le_pow_right
def pc:=@Int.emod_eq_of_lt
def o3:=@Nat.mul_comm
def pB:=@Option.map_none
def pN:=@List.take_add_one
def pK:=@List.take_of_length_le
def pu:=@decide_eq_decide
def pH:=@Bool.and_self
def pT:=@List.mem_range
def ql:=@congrArg
def qT:=@Iff.rfl
def rG:=@List.getElem?_set
def qV:=@List.length_drop
def rL:=@Nat.sub_self
def q3:=@Nat.one_mul
def rc:=@List.foldl_cons
def sj:=@Option.getD_none
def r4:=@List.setIfInBounds_toArray
def rZ:=@List.append_assoc
def sN:=@List.getElem_mem
def rV:=@Nat.ble_eq_true_of_le
def sW:=@Nat.le_trans
def tV:=@Int.emod_lt_of_pos
def ul:=@Bool.false_eq_true
def u9:=@List.cons_append
def uI:=@List.nil_append
def u5:=@Int.natCast_nonneg
def uT:=@Nat.testBit_eq_decide_div_mod_eq
def vc:=@Nat.testBit_mod_two_pow
def u7:=@List.mem_or_eq_of_mem_set
def vv:=@decide_eq_true_eq
def vj:=@List.map_set
def vU:=@Array.getElem?_modify
def vP:=@Array.getElem?_eq_some_iff
def wQ:=@List.getElem?_drop
def we:=@List.not_mem_nil
def wW:=@Nat.add_zero
def xo:=@Nat.mul_le_mul_right
def wD:=@List.set_cons_zero
def w5:=@Nat.mod_two_eq_zero_or_one
def v8:=@Nat.succ_mul
def zA:=@Int.natCast_mul
def xX:=@Int.eq_ofNat_of_zero_le
def zP:=@BitVec.toNat_and
def x4:=@Nat.pow_succ
def yN:=@List.getElem?_toArray
def yu:=@List.nodup_cons
def xV:=@Nat.testBit_lt_two_pow
def yd:=@Nat.shiftRight_le
def xZ:=@List.foldl_append
def zF:=@List.filter_append
def yg:=@Nat.mul_le_mul
def xG:=@List.mem_of_mem_drop
def Ag:=@List.size_toArray
def A0:=@List.length_nil
def BN:=@Nat.and_le_left
def Bb:=@Nat.or_lt_two_pow
def Bi:=@Int.sub_emod
def A7:=@List.mem_append_right
def B8:=@Nat.add_comm
def Bc:=@Nat.add_assoc
def BC:=@Nat.div_eq_of_lt
def AE:=@Nat.le_antisymm
def BR:=@List.mem_replicate
def BS:=@List.drop_of_length_le
def Ct:=@List.range_succ
def Az:=@List.take_take
def Cg:=@Nat.add_sub_cancel_left
def Ab:=@List.take_left'
def AZ:=@List.map_take
def BA:=@Array.getElem?_toList
def Fe:=@beq_iff_eq
def C4:=@List.mapM_cons
def EK:=@Nat.pow_add
def DQ:=@BitVec.toNat_xor
def D0:=@Int.tmod_eq_emod
def Fb:=@Int.toNat_of_nonneg
def Dk:=@Nat.and_one_is_mod
def FM:=@Nat.mul_succ
def FP:=@Nat.mod_mod
def DH:=@Nat.testBit_xor
def Et:=@Nat.div_lt_iff_lt_mul
def Fh:=@Nat.mul_mod
def Fj:=@Nat.pow_zero
def E1:=@List.getElem_of_mem
def C3:=@List.perm_middle
def FT:=@List.take_append_drop
def EF:=@List.length_filter_le
def DO:=@List.set_cons_succ
def Eg:=@List.flatMap_cons
def Ea:=@List.flatMap_append
def Fg:=@Bool.and_true
def DL:=@List.map_replicate
def Ey:=@Nat.add_mul
def HZ:=@Array.getD_eq_getD_getElem?
def Kf:=@Option.isNone_iff_eq_none
def II:=@Nat.lt_or_ge
def GN:=@List.length_range
def Ji:=@Option.isSome_iff_exists
def Hl:=@BitVec.toNat_ofInt
def HM:=@Int.fdiv_eq_ediv_of_nonneg
def IY:=@Int.natCast_add
def G6:=@Int.emod_emod
def Hs:=@List.mem_append_left
def ID:=@Nat.mul_le_mul_left
def JD:=@Nat.mul_zero
def Gc:=@Int.mul_emod
def Iq:=@List.drop_eq_getElem_cons
def Il:=@List.map_id
def Iu:=@List.getElem?_replicate
def Hr:=@Array.length_toList
def Hx:=@Nat.mul_assoc
def JY:=@Nat.add_sub_cancel
def Ib:=@List.Pairwise.map
def JJ:=@List.filter_congr
def Je:=@Nat.not_lt_zero
def IB:=@List.drop_zero
def GS:=@List.replicate_succ
def JV:=@List.eq_of_mem_replicate
def Ic:=@List.getElem?_of_mem
def JM:=@Nat.lt_succ_of_lt
def Hm:=@Option.bind_some
def JH:=@Int.ofNat_lt
def HQ:=@Bool.or_eq_true
def LP:=@Array.getElem?_setIfInBounds
def Px:=@List.isEmpty_iff
def Lq:=@Bool.and_false
def P8:=@List.getElem?_cons_succ
def Kt:=@List.mapM_toArray
def RO:=@Array.getElem?_append
def Pl:=@List.getElem?_range
def MJ:=@Int.le_refl
def O7:=@Nat.exists_eq_add_of_le
def N5:=@Int.emod_emod_of_dvd
def Oi:=@Int.natCast_emod
def Nw:=@Nat.and_two_pow_sub_one_eq_mod
def OG:=@BitVec.toNat_or
def N6:=@Int.le_of_lt
def PP:=@Int.pow_pos
def Pe:=@Int.dvd_refl
def Q8:=@List.nodup_append
def Oj:=@List.drop_length
def PD:=@List.getD_cons_zero
def N4:=@List.getD_cons_succ
def MA:=@Nat.or_comm
def Rb:=@List.cons.injEq
def LF:=@Nat.testBit_shiftRight
def KR:=@Nat.lt_trans
def RH:=@Nat.testBit_or
def LV:=@Bool.false_or
def NO:=@Bool.or_false
def Nh:=@Bool.false_and
def N9:=@List.pairwise_singleton
def Q7:=@List.perm_ext_iff_of_nodup
def N7:=@Int.add_emod
def Q9:=@List.Pairwise.imp_of_mem
def NM:=@Int.mul_add
def L5:=@Array.getElem?_eq_none
def P3:=@Array.setIfInBounds_comm
def P0:=@Array.foldl_toList
def Ny:=@List.take_zero
def QG:=@Array.toArray_toList
def PK:=@List.map_const'
def QU:=@Nat.testBit_two_pow
def Kq:=@List.drop_left'
def LH:=@List.map_drop
def N2:=@List.replicate_zero
def MP:=@Nat.pow_lt_pow_of_lt
def Pv:=@List.filter_map
def Nk:=@Decidable.of_not_not
def K7:=@Bool.not_true
def Kw:=@Array.size_setIfInBounds
def LU:=@Nat.div_div_eq_div_mul
def Yh:=@List.range_eq_range'
def Uj:=@Go.RowKit.Below.heap_alloc
def XG:=@Nat.xor_mod_two_pow
def Tb:=@Classical.choose_spec
def ab3:=@Nat.two_pow_add_eq_or_of_lt
def acn:=@Nat.eq_of_testBit_eq
def S6:=@Nat.testBit_two_pow_mul_add
def acH:=@Nat.testBit_two_pow_mul
def Ym:=@Array.mem_of_getElem?
def aaO:=@Array.getElem?_append_left
def Wt:=@Nat.pow_lt_pow_right
def abq:=@List.set_eq_take_append_cons_drop
def Xo:=@List.eraseIdx_eq_take_drop_succ
def TN:=@List.length_eraseIdx
def Tt:=@List.mem_of_mem_eraseIdx
def R4:=@List.pairwise_iff_getElem
def Vu:=@List.getElem?_eraseIdx
def WV:=@List.drop_replicate
def Vk:=@List.mem_map_of_mem
def VM:=@List.getElem?_zipIdx
def WY:=@Option.map_eq_some_iff
def acv:=@List.length_zipWith
def Ze:=@List.getElem?_set_self
def acC:=@Array.any_eq_false'
namespace Go.a6
open Go
theorem iT{k t:Nat}(h:k≠t):Nat.beq k t=false:=by
 cases ad:Nat.beq k t with
 |false=>rfl
 |true=>exact absurd (dI ad) h
def j4(t:Nat):List (Nat×aV)→Option aV
 |[]=>none
 |(k,v)::r=>bif Nat.beq k t then some v else j4 t r
def ins(d:Nat)(v:aV)(l:List (Nat×aV)):List (Nat×aV):=(d,v)::l
theorem NH(t d:Nat)(v:aV)(l:List (Nat×aV)):j4 t (ins d v l)=if t=d then some v else j4 t l:=by
 unfold ins j4;by_cases h:t=d
 ·subst h;simp
 ·simp only[iT (n4 h),az h,eO];cases l<;>rfl
def uO:eu→aV→List (Nat×aV)→List (Nat×aV)
 |some d,v,l=>ins d v l
 |none,_,l=>l
structure Env(n:Nat)(l:List (Nat×aV))(a:Act):Prop where
 size:a.tmps.size=n
 defers:a.defers=[]
 at_:∀t v,j4 t l=some v→a.tmps[t]?=some v
def bk(l:List (Nat×aV)):bf→Option aV
 |.tmp t=>j4 t l
 |.const v=>some v
 |.global g=>some (.pointer (some ⟨g,0,none⟩))
 |.func f=>some (.func (.func f) #[] #[])
def iY(l:List (Nat×aV)):List bf→Option (cw)
 |[]=>some []
 |x::r=>match bk l x,iY l r with
  |some v,some vs=>some (v::vs)
  |_,_=>none
theorem Env.bk{n:Nat}{l:List (Nat×aV)}{a:Act}(h:Env n l a){x:bf}{v:aV}(af:bk l x=some v):a.eval x=v:=by
 cases x with
 |tmp t=>have:=h.at_ t v af;simp[Act.eval,HZ,this]
 |const u=>simpa[a6.bk,Act.eval] using af
 |global g=>simpa[a6.bk,Act.eval] using af
 |func f=>simpa[a6.bk,Act.eval] using af
theorem Env.iY{n:Nat}{l:List (Nat×aV)}{a:Act}(h:Env n l a):∀{xs:List bf} {vs:cw},iY l xs=some vs→xs.map a.eval=vs
 |[],vs,af=>by simp[a6.iY] at af;subst af;rfl
 |x::r,vs,af=>by
  unfold a6.iY at af;cases aa:a6.bk l x with
  |none=>simp[aa] at af
  |some v=>
   cases ab:a6.iY l r with
   |none=>simp[aa,ab] at af
   |some ru=>
    simp[aa,ab] at af;subst af;simp[h.bk aa,h.iY ab]
theorem Env.put{n:Nat}{l:List (Nat×aV)}{a:Act}(h:Env n l a){d:Nat}(aW:d<n)(v:aV):Env n (ins d v l) (a.put (some d) v):=by
 refine⟨by simp[Act.put,h.size],by simp[Act.put,h.defers],fun t u bb=>?_⟩;rw[NH] at bb;simp only[Act.put,LP];by_cases e:t=d
 ·subst e;have:t<a.tmps.size:=by rw[h.size];exact aW
  simp at bb;simp[this,bb]
 ·rw[az e] at bb;rw[az (n4 e)];exact h.at_ t u bb
def nA(n:Nat):eu→Bool
 |some d=>Nat.blt d n
 |none=>true
theorem Env.nD{n:Nat}{l:List (Nat×aV)}{a:Act}(h:Env n l a):∀{d:eu},nA n d=true→∀v,Env n (uO d v l) (a.put d v)
 |some _,aW,v=>h.put (ho aW) v
 |none,_,_=>h
def Sub(ea l:List (Nat×aV)):Prop:=∀t v,j4 t ea=some v→j4 t l=some v
def rP:List (Nat×aV)→List (Nat×aV)→Prop
 |[],_=>True
 |(t,v)::r,l=>j4 t l=some v∧rP r l
theorem rP.sub:∀{ea l:List (Nat×aV)},rP ea l→Sub ea l
 |[],_,_=>fun t v h=>by simp[j4] at h
 |(k,u)::r,l,h=>fun t v bb=>by
  unfold j4 at bb;by_cases e:Nat.beq k t=true
  ·rw[e] at bb;simp only[cp,eb] at bb;subst bb;have:k=t:=dI e;subst this;exact h.1
  ·rw[iT (fun h=>e (by rw[h];exact mb t))] at bb;exact rP.sub h.2 t v bb
theorem Env.sub{n:Nat}{l ea:List (Nat×aV)}{a:Act}(h:Env n l a)(aq:Sub ea l):Env n ea a:=⟨h.size,h.defers,fun t v bb=>h.at_ t v (aq t v bb)⟩
inductive eR where
 |done
 |bB (fl:Bool) (i:Nat) (p:eR)
 |hp (i:Nat) (p q:eR)
def wH:Exit→Act→ao→Prop:=fun _ _ _=>False
section
variable(P:a8)(ops:Array Oper)(S:ao→Prop)(K:Act→ao→Prop)
def je:eR→Act→ao→Prop
 |.done,a,w=>K a w
 |.bB fl i p,a,w=>match ops[i]? with
  |none=>False
  |some o=>if Region.wanted o (yielded ops a.tmps)=true then
    (match fl with
     |true=>∃v,(∀ar,S ar→(execOp a.eval o).run P ar=.ok (.value v) ar)∧je p (a.put o.dst v) w
     |false=>o.wp P a w (fun bN ar=>S ar∧je p bN ar) wH)
   else je p (a.put o.dst undef) w
 |.hp i p q,a,w=>(match ops[i]? with
  |none=>False
  |some o=>if Region.wanted o (yielded ops a.tmps)=true then o.wp P a w (fun bN ar=>S ar∧je p bN ar) wH
   else je p (a.put o.dst undef) w)∧je q a w
end
def lZ(i:Nat):Nat→eR
 |0=>.done
 |k+1=>.bB false i (lZ (i+1) k)
def bW:ae→eR→eR
 |[],q=>q
 |i::r,q=>.bB true i (bW r q)
def cj:ae→eR→eR
 |[],q=>q
 |i::r,q=>.bB false i (cj r q)
theorem aJ.{u,v}{α:Sort u}{β:α→Sort v}(a:α)(_:β a):True:=trivial
def jb:ae→eR
 |[]=>.done
 |i::r=>.bB false i (jb r)
def iz(ops:Array Oper):eR→Nat→Array Bool→Option (ae)→Bool
 |.done,_,listed,rs=>rs.isNone&&(Region.ready .any ops listed).isEmpty
 |.bB true i p,ln+1,listed,rs=>rs.isNone&&(Region.ready .any ops listed).contains i&&Region.free .any ops listed i&&iz ops p ln (listed.setIfInBounds i true) none
 |.bB false i p,ln+1,listed,rs=>(rs.getD (Region.ready .any ops listed)==[i])&&iz ops p ln (listed.setIfInBounds i true) none
 |.hp i p q,ln+1,listed,rs=>iz ops p ln (listed.setIfInBounds i true) none&&iz ops q (ln+1) listed (some ((rs.getD (Region.ready .any ops listed)).filter (· !=i)))
 |_,0,_,_=>false
def mS(K:Act→ao→Prop):Exit→Act→ao→Prop
 |.normal,a,w=>K a w
 |_,_,_=>False
theorem Oper.SS{P:a8}{o:Oper}{a:Act}{w:ao}{K:Act→ao→Prop}{Q:Exit→Act→ao→Prop}(h:o.wp P a w K wH):o.wp P a w K Q:=by
 unfold Oper.wp at*;generalize (execOp a.eval o).run P w=r at*;cases r with
 |ok n ar=>
  cases n<;>simp only[Oper.upon,wH] at h⊢ <;>first
   |exact h
   |exact Calls.mono h (fun e lz he=>by cases e<;>first|exact he|exact he.elim|(obtain⟨_,_,aI⟩:=he;exact aI.elim))
 |halt x ar=>cases x<;>simp only[Oper.upon,wH] at h⊢
theorem ajr{P:a8}{ops:Array Oper}{S:ao→Prop}{K:Act→ao→Prop}(aq:Region.noSelect ops=true):
  ∀(p:eR) (ln:Nat) (listed:Array Bool) (rs:Option (ae)) (a:Act) (w:ao),iz ops p ln listed rs=true→S w→je P ops S K p a w→
   (rs=none→wpAnyH P .any ops (mS K) S ln listed a w)∧
   (∀l,rs=some l→∃f,ln=f+1∧∀i∈l,wpOp P ops (mS K) i (fun bN ar=>S ar∧wpAnyH P .any ops (mS K) S f (listed.setIfInBounds i true) bN ar) a w):=by
 have key:∀(i:Nat) (p:eR) (f:Nat) (listed:Array Bool) (a:Act) (w:ao),(∀a w,S w→je P ops S K p a w→wpAnyH P .any ops (mS K) S f (listed.setIfInBounds i true) a w)→S w→
   (match ops[i]? with
    |none=>False
    |some o=>if Region.wanted o (yielded ops a.tmps)=true then o.wp P a w (fun bN ar=>S ar∧je P ops S K p bN ar) wH else je P ops S K p (a.put o.dst undef) w)→
   wpOp P ops (mS K) i (fun bN ar=>S ar∧wpAnyH P .any ops (mS K) S f (listed.setIfInBounds i true) bN ar) a w:=by
  intro i p f listed a w aG be h;unfold wpOp;cases av:ops[i]? with
  |none=>rw[av] at h;exact h.elim
  |some o=>
   rw[av] at h;dsimp only at h⊢;by_cases hw:Region.wanted o (yielded ops a.tmps)=true
   ·rw[aD hw] at h⊢;exact .inl (Oper.SS (Oper.wp_mono (fun bN ar ⟨aa,ab⟩=>⟨aa,aG bN ar aa ab⟩) h))
   ·rw[az hw] at h⊢;exact⟨be,aG _ _ be h⟩
 intro p;induction p with
 |done=>
  intro ln listed rs a w dx be h;simp only[iz,b7,Px,Kf] at dx;obtain⟨aa,ab⟩:=dx;subst aa;exact⟨fun _=>wpAnyH_done ab h ln,fun l bc=>by cases bc⟩
 |bB fl i p ih=>
  intro ln listed rs a w dx be h;cases ln with
  |zero=>cases fl<;>simp[iz] at dx
  |succ f=>
   cases fl with
   |true=>
    simp only[iz,b7,Kf] at dx;obtain⟨⟨⟨aa,ab⟩,an⟩,aK⟩:=dx;subst aa;refine⟨fun _=>?_,fun l bc=>by cases bc⟩;unfold je at h;split at h
    ·exact h.elim
    ·rename_i o av;split at h
     ·rename_i hw;obtain⟨v,br,aQ⟩:=h;exact wpAnyH_take av aq an ab (fun c a w aI=>aI) (.inl ⟨hw,br⟩) be ((ih f _ none _ w aK be aQ).1 I)
     ·rename_i hw;exact wpAnyH_take av aq an ab (fun c a w aI=>aI) (.inr ⟨by simpa using hw,I⟩) be ((ih f _ none _ w aK be h).1 I)
   |false=>
    simp only[iz,b7,Fe] at dx;obtain⟨aa,ab⟩:=dx;have ah:=key i p f listed a w (fun a w nq dS=>(ih f _ none a w ab nq dS).1 rfl) be (by unfold je at h;exact h);constructor
    ·rintro rfl;exact wpAnyH_all (rs:=[i]) aa (by simp) (fun j ax=>by simp at ax;subst ax;exact ah)
    ·rintro l rfl;simp only[kg] at aa;subst aa;exact⟨f,I,fun j ax=>by simp at ax;subst ax;exact ah⟩
 |hp i p q Ku MD=>
  intro ln listed rs a w dx be h;cases ln with
  |zero=>simp[iz] at dx
  |succ f=>
   simp only[iz,b7] at dx;obtain⟨aa,ab⟩:=dx;unfold je at h;obtain⟨aj,ad⟩:=h;have ah:=key i p f listed a w (fun a w nq dS=>(Ku f _ none a w aa nq dS).1 rfl) be aj;obtain⟨hB,auU,aM⟩:=(MD (f+1) listed _ a w ab be ad).2 _ rfl;obtain rfl:f=hB:=by omega
   have kQ:∀j∈rs.getD (Region.ready .any ops listed),wpOp P ops (mS K) j (fun bN ar=>S ar∧wpAnyH P .any ops (mS K) S f (listed.setIfInBounds j true) bN ar) a w:=by
    intro j ax;by_cases e:j=i
    ·subst e;exact ah
    ·exact aM j (by simp[ax,e])
   constructor
   ·rintro rfl;refine⟨fun aB=>?_,kQ⟩;exfalso;simp only[sj] at aM ab;rw[aB] at ab;have:∀(q:eR),iz ops q (f+1) listed (some [])=false:=by
     intro q;induction q with
     |done=>simp[iz]
     |bB fl i p _=>cases fl<;>simp[iz]
     |hp i p q _ ih=>simp only[iz,kg,List.filter_nil,ih,Lq]
    simp[this] at ab
   ·rintro l rfl;exact⟨f,I,kQ⟩
theorem ahU{P:a8}{id:Nat}{ops:Array Oper}{S:ao→Prop}{K:Act→ao→Prop}{a:Act}{w:ao}(p:eR)(hm:P.follows .mixedOrders=true)
  (dx:(Region.noSelect ops&&iz ops p ops.size (Array.replicate ops.size false) none)=true) (be:S w.drew) (h:je P ops S K p a w.drew):(Code.region id ops true).wp P (mS K) a w:=by
 rw[b7] at dx;exact wp_region_held hm ((ajr dx.1 p _ _ none a w.drew dx.2 be h).1 I)
theorem aiW{P:a8}{id:Nat}{ops:Array Oper}{S:ao→Prop}{K:Act→ao→Prop}{a:Act}{w:ao}
  (h:je P ops S K (lZ 0 ops.size) a w):(Code.region id ops false).wp P (mS K) a w:=by
 have key:∀(k i:Nat) (a:Act) (w:ao),je P ops S K (lZ i k) a w→wpOps P ops (mS K) (List.range' i k) a w:=by
  intro k;induction k with
  |zero=>intro i a w h;simpa[lZ,je,wpOps,mS] using h
  |succ k ih=>
   intro i a w h;simp only[lZ,je] at h;simp only[List.range'_succ,wpOps];split at h
   ·exact h.elim
   ·rename_i o av;rw[av];split at h
    ·rename_i hw;simp only[hw,jU];exact .inl (Oper.SS (Oper.wp_mono (fun bN ar ⟨_,ab⟩=>ih _ bN ar ab) h))
    ·rename_i hw;simp only[hw];exact ih _ _ _ h
 refine wp_region ?_;rw[Yh];exact key ops.size 0 a w h
def nY(ops:Array Oper)(l:List (Nat×aV)):Option (Nat×Bool)→Bool
 |none=>true
 |some (j,want)=>match(ops[j]?).bind (·.dst) with
  |some d=>match j4 d l with
   |some (.bool b)=>b==want
   |_=>false
  |none=>false
def cG(ops:Array Oper)(n:Nat)(l:List (Nat×aV))(i:Nat):Option (eu×Op×aO):=
 match ops[i]? with
 |some o=>bif nY ops l o.guard&&nA n o.dst then some (o.dst,o.op,o.type) else none
 |none=>none
def Xb(ops:Array Oper)(n:Nat)(l:List (Nat×aV))(i:Nat):Option (eu):=
 match ops[i]? with
 |some o=>match o.guard with
  |some (j,want)=>bif nY ops l (some (j, !want))&&nA n o.dst then some o.dst else none
  |none=>none
 |none=>none
theorem HB{ops:Array Oper}{n:Nat}{l:List (Nat×aV)}{a:Act}(h:Env n l a){o:Oper}(hw:nY ops l o.guard=true):Region.wanted o (yielded ops a.tmps)=true:=by
 unfold Region.wanted;cases bg:o.guard with
 |none=>rfl
 |some p=>
  obtain⟨j,want⟩:=p;rw[bg] at hw;simp only[nY] at hw;split at hw
  ·rename_i d aW;split at hw
   ·rename_i b ad;have ab:((ops[j]?.bind fun x=>x.dst).bind fun x=>a.tmps[x]?)=some (Value.bool b):=by rw[aW];exact h.at_ _ _ ad
    have an:yielded ops a.tmps j=some b:=by simp only[yielded,ab]
    simp only[an];simpa using hw
   ·cases hw
  ·cases hw
theorem ajM{ops:Array Oper}{n:Nat}{l:List (Nat×aV)}{a:Act}(h:Env n l a){o:Oper}{j:Nat}{want:Bool}(bg:o.guard=some (j,want))(hw:nY ops l (some (j, !want))=true):
  Region.wanted o (yielded ops a.tmps)=false:=by
 unfold Region.wanted;rw[bg];simp only[nY] at hw;split at hw
 ·rename_i d aW;split at hw
  ·rename_i b ad;have ab:((ops[j]?.bind fun x=>x.dst).bind fun x=>a.tmps[x]?)=some (Value.bool b):=by rw[aW];exact h.at_ _ _ ad
   have an:yielded ops a.tmps j=some b:=by simp only[yielded,ab]
   simp only[an];cases want<;>cases b<;>simp_all
  ·cases hw
 ·cases hw
structure U(P:a8)(ops:Array Oper)(S:ao→Prop)(K:Act→ao→Prop)(p:eR)(n:Nat)(l:List (Nat×aV))(C:ao→Prop):Prop where
 run:∀a w,Env n l a→C w→S w→je P ops S K p a w
section
variable{P:a8}{ops:Array Oper}{S:ao→Prop}{K:Act→ao→Prop}{p q:eR}{n:Nat}{l:List (Nat×aV)}{C ec:ao→Prop}
theorem U.done(h:∀a w,Env n l a→C w→K a w):U P ops S K .done n l C:=⟨fun a w he ag _=>h a w he ag⟩
theorem U.val{fl:Bool}{i:Nat}{d:eu}{op:Op}{ty:aO}{v:aV}(av:cG ops n l i=some (d,op,ty))
  (hn:∀a w (o:Oper),Env n l a→(fl=true→S w)→(fl=false→C w)→o.op=op→o.type=ty→(execOp a.eval o).run P w=.ok (.value v) w)
  (h:U P ops S K p n (uO d v l) C):U P ops S K (.bB fl i p) n l C:=by
 refine⟨fun a w he ag aq=>?_⟩;unfold cG at av;split at av
 ·rename_i o gb;by_cases ad:(nY ops l o.guard&&nA n o.dst)=true
  ·rw[ad] at av;simp only[cp,eb,fs] at av;obtain⟨rfl,rfl,rfl⟩:=av;rw[b7] at ad;have aQ:=h.run _ w (he.nD ad.2 v) ag aq;simp only[je,gb,HB he ad.1,jU];cases fl with
   |true=>exact⟨v,fun ar sr=>hn a ar o he (fun _=>sr) (by simp) rfl rfl,aQ⟩
   |false=>
    simp only[Oper.wp,hn a w o he (by simp) (fun _=>ag) rfl rfl,Oper.upon_value];exact⟨aq,aQ⟩
  ·have:(nY ops l o.guard&&nA n o.dst)=false:=by simpa using ad
   rw[this] at av;cases av
 ·cases av
theorem U.pure{fl:Bool}{i:Nat}{d:eu}{op:Op}{ty:aO}{v:aV}(av:cG ops n l i=some (d,op,ty))
  (hn:∀a w (o:Oper),Env n l a→o.op=op→o.type=ty→(execOp a.eval o).run P w=.ok (.value v) w)
  (h:U P ops S K p n (uO d v l) C):U P ops S K (.bB fl i p) n l C:=
 U.val av (fun a w o he _ _ aa ab=>hn a w o he aa ab) h
theorem U.skip{fl:Bool}{i:Nat}{d:eu}(av:Xb ops n l i=some d)(h:U P ops S K p n (uO d undef l) C):U P ops S K (.bB fl i p) n l C:=by
 refine⟨fun a w he ag aq=>?_⟩;unfold Xb at av;split at av
 ·rename_i o gb;split at av
  ·rename_i j want bg;by_cases ad:(nY ops l (some (j, !want))&&nA n o.dst)=true
   ·rw[ad] at av;simp only[cp,eb] at av;subst av;rw[b7] at ad;have aQ:=h.run _ w (he.nD ad.2 undef) ag aq;simp only[je,gb,ajM he bg ad.1];simpa using aQ
   ·have:(nY ops l (some (j, !want))&&nA n o.dst)=false:=by simpa using ad
    rw[this] at av;cases av
  ·cases av
 ·cases av
theorem U.act{i:Nat}{d:eu}{op:Op}{ty:aO}{X:Type}{v:X→aV}{ec:X→ao→Prop}(av:cG ops n l i=some (d,op,ty))
  (hn:∀a w (o:Oper),Env n l a→C w→o.op=op→o.type=ty→∃x ar,((execOp a.eval o).run P w=.ok (.value (v x)) ar∨(execOp a.eval o).run P w=.ok .skip ar∧v x=undef)∧ec x ar)
  (be:∀x w,ec x w→S w)
  (h:∀x,U P ops S K p n (uO d (v x) l) (ec x)):U P ops S K (.bB false i p) n l C:=by
 refine⟨fun a w he ag _=>?_⟩;unfold cG at av;split at av
 ·rename_i o gb;by_cases ad:(nY ops l o.guard&&nA n o.dst)=true
  ·rw[ad] at av;simp only[cp,eb,fs] at av;obtain⟨rfl,rfl,rfl⟩:=av;rw[b7] at ad;obtain⟨x,ar,aH,qg⟩:=hn a w o he ag rfl rfl;have aQ:=(h x).run _ ar (he.nD ad.2 (v x)) qg (be x ar qg);simp only[je,gb,HB he ad.1,jU];rcases aH with aH|⟨aH,hu⟩
   ·simp only[Oper.wp,aH,Oper.upon_value];exact⟨be x ar qg,aQ⟩
   ·simp only[Oper.wp,aH,Oper.upon_skip];rw[←hu];exact⟨be x ar qg,aQ⟩
  ·have:(nY ops l o.guard&&nA n o.dst)=false:=by simpa using ad
   rw[this] at av;cases av
 ·cases av
theorem U.hp{i:Nat}(aa:U P ops S K (.bB false i p) n l C)(ab:U P ops S K q n l C):U P ops S K (.hp i p q) n l C:=
 ⟨fun a w he ag aq=>⟨by have:=aa.run a w he ag aq;unfold je at this;exact this,ab.run a w he ag aq⟩⟩
theorem U.fact{F:Prop}(eH:∀w,C w→F)(h:F→U P ops S K p n l C):U P ops S K p n l C:=⟨fun a w he ag aq=>(h (eH w ag)).run a w he ag aq⟩
theorem U.bool(t:Nat){b:Bool}(bb:j4 t l=some (.bool b))(aa:b=true→U P ops S K p n (ins t (.bool true) l) C)(ab:b=false→U P ops S K p n (ins t (.bool false) l) C):U P ops S K p n l C:=by
 refine⟨fun a w he ag aq=>?_⟩;have key:∀u,j4 t l=some u→Env n (ins t u l) a:=fun u hu=>⟨he.size,he.defers,fun s v br=>by
  rw[NH] at br;by_cases e:s=t
  ·subst e;simp at br;subst br;exact he.at_ _ _ hu
  ·rw[az e] at br;exact he.at_ _ _ br⟩
 cases b with
 |true=>exact(aa rfl).run a w (key _ bb) ag aq
 |false=>exact(ab rfl).run a w (key _ bb) ag aq
end
inductive lS where
 |code (c:Code)
 |aE (id:Nat)
 |nh (jv:Act→ao→Prop)
def lb(P:a8)(R:Act→ao→Prop):List lS→Exit→Act→ao→Prop
 |[]=>fun e a w=>match e with
  |.normal|.ret=>R a w
  |_=>False
 |.code y::k=>fun e a w=>match e with
  |.normal=>y.wp P (lb P R k) a w
  |e=>lb P R k e a w
 |.aE id::k=>fun e a w=>match e with
  |.exit CK=>if CK=id then lb P R k .normal a w else lb P R k (.exit CK) a w
  |e=>lb P R k e a w
 |.nh jv::k=>fun e a w=>match e with
  |.normal=>jv a w
  |e=>lb P R k e a w
theorem HR{P:a8}{R:Act→ao→Prop}:∀(k:List lS) {a:Act} {w:ao},R a w→lb P R k .ret a w
 |[],_,_,h=>h
 |.code _::k,_,_,h=>HR k h
 |.aE _::k,_,_,h=>HR k h
 |.nh _::k,_,_,h=>HR k h
def py(id:Nat):List lS→Option (List lS)
 |[]=>none
 |.aE i::k=>bif Nat.beq i id then some k else py id k
 |.code _::k=>py id k
 |.nh _::k=>py id k
theorem F7{P:a8}{R:Act→ao→Prop}{id:Nat}:∀{k cb:List lS} {a:Act} {w:ao},py id k=some cb→lb P R cb .normal a w→lb P R k (.exit id) a w
 |[],_,_,_,h,_=>by simp[py] at h
 |.aE i::k,cb,a,w,h,ah=>by
  unfold py at h;simp only[lb];by_cases e:i=id
  ·subst e;simp at h;subst h;simpa using ah
  ·have aa:Nat.beq i id=false:=iT e;rw[aa] at h;rw[az (n4 e)];exact F7 (k:=k) h ah
 |.code _::k,_,_,_,h,ah=>F7 (k:=k) h ah
 |.nh _::k,_,_,_,h,ah=>F7 (k:=k) h ah
structure J(P:a8)(R:Act→ao→Prop)(k:List lS)(c:Code)(n:Nat)(l:List (Nat×aV))(C:ao→Prop):Prop where
 run:∀a w,Env n l a→C w→c.wp P (lb P R k) a w
structure al(P:a8)(R:Act→ao→Prop)(k:List lS)(n:Nat)(l:List (Nat×aV))(C:ao→Prop):Prop where
 run:∀a w,Env n l a→C w→lb P R k .normal a w
section
variable{P:a8}{R:Act→ao→Prop}{k:List lS}{n:Nat}{l ea:List (Nat×aV)}{C ec:ao→Prop}{c x y:Code}
theorem J.seq(h:J P R (.code y::k) x n l C):J P R k (.seq x y) n l C:=
 ⟨fun a w he ag=>wp_seq (wp_mono (h.run a w he ag) (fun e a w ah=>by cases e<;>exact ah))⟩
theorem J.block{id:Nat}(h:J P R (.aE id::k) c n l C):J P R k (.block id c) n l C:=
 ⟨fun a w he ag=>wp_block (wp_mono (h.run a w he ag) (fun e a w ah=>by cases e<;>exact ah))⟩
theorem J.skip(h:al P R k n l C):J P R k .skip n l C:=⟨fun a w he ag=>wp_skip (h.run a w he ag)⟩
theorem J.label{i:Nat}(h:al P R k n l C):J P R k (.label i) n l C:=⟨fun a w he ag=>wp_label (h.run a w he ag)⟩
theorem J.ret(h:al P R [] n l C):J P R k .ret n l C:=⟨fun a w he ag=>wp_ret (HR k (h.run a w he ag))⟩
theorem J.exit{id:Nat}{cb:List lS}(aG:py id k=some cb)(h:al P R cb n l C):J P R k (.exit id) n l C:=
 ⟨fun a w he ag=>wp_exit (F7 aG (h.run a w he ag))⟩
theorem J.cond{o:bf}{b:Bool}(av:bk l o=some (.bool b))(aa:b=true→J P R k x n l C)(ab:b=false→J P R k y n l C):J P R k (.cond o x y) n l C:=
 ⟨fun a w he ag=>wp_cond_split (he.bk av) (fun e=>(aa e).run a w he ag) (fun e=>(ab e).run a w he ag)⟩
theorem J.hH{o:bf}(av:bk l o=some (.bool true))(aa:J P R k x n l C):J P R k (.cond o x y) n l C:=
 J.cond av (fun _=>aa) (fun e=>by cases e)
theorem J.dy{o:bf}(av:bk l o=some (.bool false))(aa:J P R k y n l C):J P R k (.cond o x y) n l C:=
 J.cond av (fun e=>by cases e) (fun _=>aa)
theorem J.test{o:bf}{p:Prop}[Decidable p](av:bk l o=some (.bool (decide p)))(aa:p→J P R k x n l C)(ab:¬p→J P R k y n l C):J P R k (.cond o x y) n l C:=
 J.cond av (fun e=>aa (gF e)) (fun e=>ab (jG e))
theorem J.fact{F:Prop}(eH:∀w,C w→F)(h:F→J P R k c n l C):J P R k c n l C:=⟨fun a w he ag=>(h (eH w ag)).run a w he ag⟩
theorem J.ex{X:Type}{ec:X→ao→Prop}(dU:∀w,C w→∃x,ec x w)(h:∀x,J P R k c n l (ec x)):J P R k c n l C:=
 ⟨fun _ w he ag=>let ⟨x,af⟩:=dU w ag;(h x).run _ w he af⟩
theorem al.code(h:J P R k y n l C):al P R (.code y::k) n l C:=⟨fun a w he ag=>h.run a w he ag⟩
theorem al.aE{id:Nat}(h:al P R k n l C):al P R (.aE id::k) n l C:=⟨fun a w he ag=>h.run a w he ag⟩
theorem al.fact{F:Prop}(eH:∀w,C w→F)(h:F→al P R k n l C):al P R k n l C:=⟨fun a w he ag=>(h (eH w ag)).run a w he ag⟩
theorem anD{G:Type}{Q:Exit→Act→ao→Prop}(jv:G→Act→ao→Prop)(hT:G→Nat)
  (round:∀g a w,jv g a w→c.wp P (Exit.then (fun bN ar=>∃c9,jv c9 bN ar∧hT c9<hT g) Q) a w) (ki:G) {a:Act} {w:ao} (Oo:jv ki a w):(Code.loop c).wp P Q a w:=by
 intro b k cs;have key:∀(m:Nat) (g:G) (a:Act) (w:ao),hT g=m→jv g a w→∃e bN ar,Q e bN ar∧Arrives P (lone (b.at a (.code c::.inLoop c::k)) cs w) b k cs e bN ar:=by
  intro m;induction m using Nat.strongRecOn with
  |_ m ih=>
   intro g a w hm dj;obtain⟨e,A3,AI,aM,xD⟩:=round g a w dj b (.inLoop c::k) cs;cases e with
   |normal=>
    obtain⟨c9,are,ca⟩:=aM;obtain⟨ae3,akK,aeX,aqN,asw⟩:=ih (hT c9) (hm▸ca) c9 A3 AI rfl are;exact⟨ae3,akK,aeX,aqN,.of_steps (Steps.trans xD (.one step_inLoop)) asw⟩
   |exit id=>exact⟨_,A3,AI,aM,.pass (x:=.inLoop c) rfl (fun _ _=>.inl (by simp)) xD⟩
   |goto l=>exact⟨_,A3,AI,aM,.pass (x:=.inLoop c) rfl (fun _ _=>.inl (by simp)) xD⟩
   |ret=>exact⟨_,A3,AI,aM,.pass (x:=.inLoop c) rfl (fun _ _=>.inl (by simp)) xD⟩
   |panic axB=>exact⟨_,A3,AI,aM,.pass (x:=.inLoop c) rfl (fun _ _=>.inl (by simp)) xD⟩
   |outgrown=>exact⟨_,A3,AI,aM,.pass (x:=.inLoop c) rfl (fun _ _=>.inl (by simp)) xD⟩
 obtain⟨e,bN,ar,aM,xD⟩:=key _ ki a w rfl Oo;exact⟨e,bN,ar,aM,.of_steps (.one step_loop) xD⟩
structure Xm{G:Type}(n:Nat)(hg:G→List (Nat×aV))(hq:G→ao→Prop)(pf:G→Prop)(hT:G→Nat)(m:Nat)(a:Act)(w:ao):Prop where
 back:∃c9,(Env n (hg c9) a∧hq c9 w∧pf c9)∧hT c9<m
theorem J.loop{G:Type}(hg:G→List (Nat×aV))(hq:G→ao→Prop)(pf:G→Prop)(hT:G→Nat)(ki:G)(bc:rP (hg ki) l)(dU:∀w,C w→hq ki w)(aG:pf ki)
  (aH:∀g,pf g→J P R (.nh (Xm n hg hq pf hT (hT g))::k) c n (hg g) (hq g)):J P R k (.loop c) n l C:=by
 refine⟨fun a w he ag=>?_⟩;refine anD (fun g a w=>Env n (hg g) a∧hq g w∧pf g) hT (fun g a w bg=>?_) ki ⟨he.sub bc.sub,dU w ag,aG⟩;exact wp_mono ((aH g bg.2.2).run a w bg.1 bg.2.1) (fun e bN ar ah=>by cases e<;>first|exact ah|exact ah.back)
theorem al.back{G:Type}{hg:G→List (Nat×aV)}{hq:G→ao→Prop}{pf:G→Prop}{hT:G→Nat}{m:Nat}(c9:G)(bc:rP (hg c9) l)(dU:∀w,C w→hq c9 w)(aG:pf c9)(hm:hT c9<m):
  al P R (.nh (Xm n hg hq pf hT m)::k) n l C:=⟨fun _ w he ag=>⟨c9,⟨he.sub bc.sub,dU w ag,aG⟩,hm⟩⟩
structure abH{G:Type}(n:Nat)(hg:G→List (Nat×aV))(hq:G→ao→Prop)(pf:G→Prop)(a:Act)(w:ao):Prop where
 join:∃g,Env n (hg g) a∧hq g w∧pf g
theorem J.cut{G:Type}(hg:G→List (Nat×aV))(hq:G→ao→Prop)(pf:G→Prop)(af:J P R (.nh (abH n hg hq pf)::k) x n l C)(aF:∀g,pf g→J P R k y n (hg g) (hq g)):J P R k (.seq x y) n l C:=
 ⟨fun a w he ag=>wp_seq (wp_mono (af.run a w he ag) (fun e a w ah=>by
  cases e<;>first|exact ah|(obtain⟨g,aa,ab,an⟩:=ah.join;exact(aF g an).run a w aa ab)))⟩
theorem al.join{G:Type}{hg:G→List (Nat×aV)}{hq:G→ao→Prop}{pf:G→Prop}(g:G)(bc:rP (hg g) l)(dU:∀w,C w→hq g w)(aG:pf g):al P R (.nh (abH n hg hq pf)::k) n l C:=
 ⟨fun _ w he ag=>⟨g,he.sub bc.sub,dU w ag,aG⟩⟩
theorem J.CO{id:Nat}{ops:Array Oper}(is:ae)(hi:jb is=lZ 0 ops.size)(h:U P ops (fun _=>True) (lb P R k .normal) (jb is) n l C):J P R k (.region id ops false) n l C:=
 ⟨fun a w he ag=>wp_mono (aiW (by rw[←hi];exact h.run a w he ag trivial)) (fun e a w ah=>by cases e<;>first|exact ah|exact ah.elim)⟩
theorem J.dQ{id:Nat}{ops:Array Oper}(p:eR)(S:ao→Prop)(hm:P.follows .mixedOrders=true)(dx:(Region.noSelect ops&&iz ops p ops.size (Array.replicate ops.size false) none)=true)
  (aW:∀w,C w→C w.drew) (be:∀w,C w→S w) (h:U P ops S (lb P R k .normal) p n l C):J P R k (.region id ops true) n l C:=
 ⟨fun a w he ag=>wp_mono (ahU p hm dx (be _ (aW w ag)) (h.run a w.drew he (aW w ag) (be _ (aW w ag)))) (fun e a w ah=>by cases e<;>first|exact ah|exact ah.elim)⟩
theorem J.rg{id:Nat}{ops:Array Oper}(m:Nat)(hi:jb (List.range m)=lZ 0 ops.size)(h:U P ops (fun _=>True) (lb P R k .normal) (jb (List.range m)) n l C):J P R k (.region id ops false) n l C:=J.CO _ hi h
theorem J.aw{id:Nat}{ops:Array Oper}(m:Nat)(hi:jb (List.range m)=lZ 0 ops.size)(h:U P ops (fun _=>True) (lb P R (.code y::k) .normal) (jb (List.range m)) n l C):J P R k (.seq (.region id ops false) y) n l C:=J.seq (J.CO _ hi h)
theorem U.end_{ops:Array Oper}{S:ao→Prop}(h:al P R k n l C):U P ops S (lb P R k .normal) .done n l C:=U.done h.run
theorem U.next{ops:Array Oper}{S:ao→Prop}(h:J P R k y n l C):U P ops S (lb P R (.code y::k) .normal) .done n l C:=U.done h.run
theorem U.bl{id:Nat}{ops wU:Array Oper}{S:ao→Prop}(m:Nat)(hi:jb (List.range m)=lZ 0 wU.size)(h:U P wU (fun _=>True) (lb P R (.code y::k) .normal) (jb (List.range m)) n l C):
  U P ops S (lb P R (.code (.seq (.region id wU false) y)::k) .normal) .done n l C:=U.next (J.aw m hi h)
def u6(i:Nat):cw→List (Nat×aV)
 |[]=>[]
 |v::r=>(i,v)::u6 (i+1) r
theorem NV:∀(vs:cw) (i t:Nat) (v:aV),j4 t (u6 i vs)=some v→i≤t∧vs[t- i]?=some v
 |[],_,_,_,h=>by simp[u6,j4] at h
 |u::r,i,t,v,h=>by
  unfold u6 j4 at h;by_cases e:i=t
  ·subst e;simp at h;subst h;simp
  ·have aa:Nat.beq i t=false:=iT e;rw[aa] at h;obtain⟨ab,an⟩:=NV r (i+1) t v h;refine⟨by omega,?_⟩;have:t- i=(t- (i+1))+1:=by omega
   rw[this,P8];exact an
def zs(l:List (Nat×aV)):List ResultVar→Option (cw)
 |[]=>some []
 |.tmp t::r=>match j4 t l,zs l r with
  |some v,some vs=>some (v::vs)
  |_,_=>none
 |.cell _ _::_=>none
def rY(a:Act):ResultVar→Sem aV
 |.tmp t=>Pure.pure (a.tmps.getD t undef)
 |.cell b t=>do loadVar t (←asAddr (a.tmps.getD b undef))
theorem S0{P:a8}{n:Nat}{l:List (Nat×aV)}{a:Act}{w:ao}(he:Env n l a):∀(rs:List ResultVar) (vs:cw),zs l rs=some vs→
  (rs.mapM (rY a)).run P w=.ok vs w
 |[],vs,h=>by simp[zs] at h;subst h;rfl
 |.tmp t::r,vs,h=>by
  unfold zs at h;split at h
  ·rename_i v ru aa ab;simp at h;subst h;have ih:=S0 (P:=P) (w:=w) he r ru ab;have br:a.tmps.getD t undef=v:=he.bk (x:=.tmp t) aa;simp only[C4,rY,br,Sem.run_bind,ih,Sem.run_pure,Result.andThen_ok]
  ·cases h
 |.cell _ _::_,vs,h=>by simp[zs] at h
def oneOf:cw→aV
 |[v]=>v
 |vs=>.tuple vs.toArray
structure xP(fn:Func)(R:Ending→ao→Prop)(P:a8)(a:Act)(w:ao):Prop where
 out:a.defers=[]∧∃v,(results fn a.tmps).run P w=.ok v w∧R (.returned v) w
theorem al.ret{fn:Func}{R:Ending→ao→Prop}{rs:List ResultVar}{vs:cw}(aH:fn.results=rs.toArray)(br:zs l rs=some vs)(h:∀w,C w→R (.returned (oneOf vs)) w):al P (xP fn R P) [] n l C:=by
 refine⟨fun a w he ag=>⟨he.defers,_,?_,h w ag⟩⟩;have aa:=S0 (P:=P) (w:=w) he rs vs br;have ab:results fn a.tmps=(do let vs ←fn.results.mapM (rY a);Pure.pure (if h:vs.size=1 then vs[0] else .tuple vs)):=by
  unfold results;congr 1
 rw[ab,aH,Kt];simp only[Sem.run_bind,Sem.run_map,aa,Sem.run_pure,Result.andThen_ok];congr 1
 match vs with
 |[]=>rfl
 |[v]=>rfl
 |u::v::r=>
  rw[dif_neg (by simp)];rfl
theorem Kp{f:dn}{fn:Func}{args:cw}{w:ao}{R:Ending→ao→Prop}(aI:P.funcs[f]?=some fn)(ad:fn.body=some c)(aQ:fn.ntmps=n)(hlen:Nat.ble args.length n=true)
  (h:J P (xP fn R P) [] c n (u6 0 args) (fun ar=>ar=w)):Calls P f args.toArray w R:=by
 replace hlen:args.length≤n:=ho hlen;refine calls_of_wp aI ad ?_;refine wp_mono (h.run _ w ⟨by simp[aQ];omega,rfl,fun t v bb=>?_⟩ rfl) ?_
 ·obtain⟨_,ab⟩:=NV args 0 t v bb;simp only[nk] at ab;have ca:t<args.length:=by
   rcases II t args.length with h|h
   ·exact h
   ·rw[iq h] at ab;cases ab
  rw[eF ca,eb] at ab;simp[RO,ca,ab]
 ·intro e a w ah;cases e with
  |normal=>exact ah.out
  |ret=>exact ah.out
  |_=>exact ah.elim
end
end Go.a6
end
section
namespace Go.a6
open Go
structure Fr(F:Nat→Prop)(w ar:ao):Prop where
 os:ar.os=w.os
 tape:ar.tape=w.tape
 output:ar.output=w.output
 size:w.heap.size≤ar.heap.size
 block:∀k,F k→ar.heap[k]?=w.heap[k]?
def oj(w:ao):Nat→Prop:=fun k=>k<w.heap.size
theorem Fr.refl(F:Nat→Prop)(w:ao):Fr F w w:=⟨rfl,rfl,rfl,Nat.le_refl _,fun _ _=>rfl⟩
theorem Fr.trans{F:Nat→Prop}{a b c:ao}(h:Fr F a b)(k:Fr F b c):Fr F a c:=
 ⟨k.os.trans h.os,k.tape.trans h.tape,k.output.trans h.output,sW h.size k.size,fun i hi=>(k.block i hi).trans (h.block i hi)⟩
theorem Fr.mono{F G:Nat→Prop}{w ar:ao}(h:Fr F w ar)(bg:∀k,G k→F k):Fr G w ar:=⟨h.os,h.tape,h.output,h.size,fun k ah=>h.block k (bg k ah)⟩
theorem Fr.below{w ar:ao}(h:Fr (oj w) w ar):Go.RowKit.Below w.heap.size w ar:=⟨h.os,h.tape,h.output,h.size,h.block⟩
structure bi where
 ok:ao→(Nat→Prop)→Prop
 loc:∀{w ar:ao} {D:Nat→Prop},ok w D→(∀k,D k→ar.heap[k]?=w.heap[k]?)→ok ar D
def Sep(F:Nat→Prop):List bi→ao→Prop
 |[],_=>True
 |A::L,w=>∃D:Nat→Prop,A.ok w D∧(∀k,D k→¬F k∧k<w.heap.size)∧Sep (fun k=>F k∨D k) L w
theorem Sep.mono:∀{L:List bi} {F dK:Nat→Prop} {w ar:ao},Sep F L w→(∀k,k<w.heap.size→¬F k→ar.heap[k]?=w.heap[k]?)→w.heap.size≤ar.heap.size→
  (∀k,dK k→F k∨w.heap.size≤k)→Sep dK L ar
 |[],_,_,_,_,_,_,_,_=>trivial
 |A::L,F,dK,w,ar,h,ad,aq,aI=>by
  obtain⟨D,aa,ab,an⟩:=h;refine⟨D,A.loc aa (fun k ah=>ad k (ab k ah).2 (ab k ah).1),fun k ah=>⟨fun uh=>?_,h6 (ab k ah).2 aq⟩,Sep.mono an (fun k ah aQ=>ad k ah (fun aI=>aQ (.inl aI))) aq ?_⟩
  ·rcases aI k uh with h|h
   ·exact(ab k ah).1 h
   ·exact absurd (ab k ah).2 (by omega)
  ·rintro k (ah|ah)
   ·exact(aI k ah).imp .inl id
   ·exact .inl (.inr ah)
theorem Sep.at_:∀{L:List bi} {F:Nat→Prop} {w:ao} {i:Nat} {A:bi},Sep F L w→L[i]?=some A→
  ∃D:Nat→Prop,A.ok w D∧(∀k,D k→¬F k∧k<w.heap.size)∧∀(ar:ao) (c8:bi) (gk:Nat→Prop),(∀k,¬D k→¬F k→k<w.heap.size→ar.heap[k]?=w.heap[k]?)→
   w.heap.size≤ar.heap.size→c8.ok ar gk→(∀k,gk k→(D k∨w.heap.size≤k)∧k<ar.heap.size)→(∀k,F k→k<w.heap.size)→Sep F (L.set i c8) ar
 |[],_,_,_,_,_,hi=>by simp at hi
 |B::R,F,w,0,A,h,hi=>by
  simp at hi;subst hi;obtain⟨D,aa,ab,an⟩:=h;refine⟨D,aa,ab,fun ar c8 gk ad aq aj aW eH=>⟨gk,aj,fun k ah=>⟨fun aI=>?_,(aW k ah).2⟩,Sep.mono an (fun k ah aQ=>ad k (fun h=>aQ (.inr h)) (fun h=>aQ (.inl h)) ah) aq ?_⟩⟩
  ·rcases(aW k ah).1 with h|h
   ·exact(ab k h).1 aI
   ·have:=eH k aI;omega
  ·rintro k (ah|ah)
   ·exact .inl (.inl ah)
   ·exact(aW k ah).1.imp .inr id
 |B::R,F,w,i+1,A,h,hi=>by
  obtain⟨E,aa,ab,an⟩:=h;obtain⟨D,k1,k2,bx⟩:=Sep.at_ (i:=i) an (by simpa using hi);refine⟨D,k1,fun k ah=>⟨fun aI=>(k2 k ah).1 (.inl aI),(k2 k ah).2⟩,fun ar c8 gk ad aq aj aW eH=>?_⟩;refine⟨E,B.loc aa (fun k ah=>ad k (fun aW=>(k2 k aW).1 (.inr ah)) (ab k ah).1 (ab k ah).2),fun k ah=>⟨(ab k ah).1,h6 (ab k ah).2 aq⟩,?_⟩;refine bx ar c8 gk (fun k ah aQ=>ad k ah (fun aI=>aQ (.inl aI))) aq aj aW ?_;rintro k (ah|ah)
  ·exact eH k ah
  ·exact(ab k ah).2
theorem Sep.VX:∀{L₁ zn:List bi} {F:Nat→Prop} {w:ao} {b:Nat},Sep (fun k=>F k∨k<b) L₁ w→(∀G:Nat→Prop,(∀k,G k→F k∨b≤k)→Sep G zn w)→Sep F (L₁++zn) w
 |[],zn,F,w,b,_,ab=>ab F (fun k ah=>.inl ah)
 |A::L,zn,F,w,b,aa,ab=>by
  obtain⟨D,k1,k2,bx⟩:=aa;refine⟨D,k1,fun k ah=>⟨fun aI=>(k2 k ah).1 (.inl aI),(k2 k ah).2⟩,?_⟩;have eg:∀k,D k→b≤k:=fun k ah=>nV (fun ca=>(k2 k ah).1 (.inr ca));refine Sep.VX (b:=b) (Sep.mono bx (fun _ _ _=>I) (cq _) ?_) (fun G b9=>ab G (fun k ah=>?_))
  ·rintro k ((ah|ah)|ah)
   ·exact .inl (.inl (.inl ah))
   ·exact .inl (.inr ah)
   ·exact .inl (.inl (.inr ah))
  ·rcases b9 k ah with(h|h)|h
   ·exact .inl h
   ·exact .inr (eg k h)
   ·exact .inr h
theorem Sep.nU:∀{L:List bi} {F dK:Nat→Prop} {w:ao},Sep F L w→(∀k,dK k→F k)→Sep dK L w:=fun h aI=>Sep.mono h (fun _ _ _=>rfl) (Nat.le_refl _) (fun _ ah=>.inl (aI _ ah))
theorem Sep.tail{A:bi}{L:List bi}{F:Nat→Prop}{w:ao}(h:Sep F (A::L) w):Sep F L w:=let ⟨_,_,_,an⟩:=h;an.nU (fun _=>.inl)
theorem Sep.erase:∀{L:List bi} {F:Nat→Prop} {w:ao} (i:Nat),Sep F L w→Sep F (L.eraseIdx i) w
 |[],_,_,_,h=>by simpa using h
 |_::_,_,_,0,h=>by simpa using h.tail
 |_::_,_,_,i+1,h=>by
  obtain⟨D,aa,ab,an⟩:=h;exact⟨D,aa,ab,Sep.erase i an⟩
theorem Sep.swap{A B:bi}{L:List bi}{F:Nat→Prop}{w:ao}(h:Sep F (A::B::L) w):Sep F (B::A::L) w:=by
 obtain⟨D,aa,ab,E,an,aK,bo⟩:=h;refine⟨E,an,fun k ah=>⟨fun aI=>(aK k ah).1 (.inl aI),(aK k ah).2⟩,D,aa,fun k ah=>⟨?_,(ab k ah).2⟩,bo.nU ?_⟩
 ·rintro(aI|aI)
  ·exact(ab k ah).1 aI
  ·exact(aK k aI).1 (.inr ah)
 ·rintro k ((h|h)|h)
  ·exact .inl (.inl h)
  ·exact .inr h
  ·exact .inl (.inr h)
theorem Sep.front:∀{L:List bi} {F:Nat→Prop} {w:ao} {i:Nat} {A:bi},Sep F L w→L[i]?=some A→Sep F (A::L.eraseIdx i) w
 |[],_,_,_,_,_,hi=>by simp at hi
 |B::R,F,w,0,A,h,hi=>by simp at hi;subst hi;simpa using h
 |B::R,F,w,i+1,A,h,hi=>by
  obtain⟨D,aa,ab,an⟩:=h;have ih:=Sep.front (i:=i) an (by simpa using hi);exact Sep.swap (⟨D,aa,ab,ih⟩:Sep F (B::A::R.eraseIdx i) w)
def wX(L:List bi):ae→Option (List bi)
 |[]=>some []
 |i::r=>match L[i]?,wX (L.eraseIdx i) r with
  |some A,some R=>some (A::R)
  |_,_=>none
theorem Sep.pick:∀{is:ae} {L dv:List bi} {F:Nat→Prop} {w:ao},wX L is=some dv→Sep F L w→Sep F dv w
 |[],L,dv,F,w,h,_=>by simp[wX] at h;subst h;trivial
 |i::r,L,dv,F,w,h,aq=>by
  unfold wX at h;split at h
  ·rename_i A R aa ab;simp at h;subst h;obtain⟨D,k1,k2,bx⟩:=aq.front aa;exact⟨D,k1,k2,Sep.pick ab bx⟩
  ·cases h
theorem Sep.drop:∀{L₁ zn:List bi} {F:Nat→Prop} {w:ao},Sep F (L₁++zn) w→Sep F zn w
 |[],_,_,_,h=>h
 |_::L₁,_,_,_,h=>Sep.drop (L₁:=L₁) h.tail
structure au(F:Nat→Prop)(w₀:ao)(L:List bi)(w:ao):Prop where
 b6:Fr F w₀ w
 lt:∀k,F k→k<w₀.heap.size
 sep:Sep F L w
abbrev bF(w₀:ao)(L:List bi)(w:ao):Prop:=au (oj w₀) w₀ L w
section
variable{F:Nat→Prop}{w₀ w ar:ao}{L dv:List bi}{A:bi}
theorem au.start(w:ao):bF w [] w:=⟨Fr.refl _ _,fun _ h=>h,trivial⟩
theorem au.of_eq{v:ao}(h:v=w):bF w [] v:=by subst h;exact au.start _
theorem au.y3(h:au F w₀ L w)(k:Nat)(ah:F k):k<w.heap.size:=Nat.lt_of_lt_of_le (h.lt k ah) h.b6.size
theorem au.sJ(h:au F w₀ L w)(hw:Fr (oj w) w ar):au F w₀ L ar:=
 ⟨h.b6.trans (hw.mono (fun k ah=>h.y3 k ah)),h.lt,Sep.mono h.sep (fun k ah _=>hw.block k ah) hw.size (fun _ ah=>.inl ah)⟩
theorem au.drew(h:au F w₀ L w):au F w₀ L w.drew:=h.sJ ⟨rfl,rfl,rfl,Nat.le_refl _,fun _ _=>rfl⟩
theorem au.join(h:au F w₀ L w)(dS:bF w dv ar):au F w₀ (dv++L) ar:=by
 refine⟨(h.sJ dS.b6).b6,h.lt,?_⟩;refine Sep.VX (b:=w.heap.size) (dS.sep.nU ?_) (fun G b9=>Sep.mono h.sep (fun k ah _=>dS.b6.block k ah) dS.b6.size b9);rintro k (ah|ah)
 ·exact h.y3 k ah
 ·exact ah
theorem au.pick(is:ae)(aG:wX L is=some dv)(h:au F w₀ L w):au F w₀ dv w:=⟨h.b6,h.lt,h.sep.pick aG⟩
theorem au.nothing(h:au F w₀ L w):au F w₀ [] w:=⟨h.b6,h.lt,trivial⟩
def Has(A:bi)(w:ao):Prop:=∃D:Nat→Prop,A.ok w D∧∀k,D k→k<w.heap.size
theorem Has.sJ(h:Has A w)(hw:Fr (oj w) w ar):Has A ar:=
 let ⟨D,aa,ab⟩:=h
 ⟨D,A.loc aa (fun k ah=>hw.block k (ab k ah)),fun k ah=>h6 (ab k ah) hw.size⟩
theorem au.a7(h:bF w₀ L w)(aj:Has A w₀):Has A w:=aj.sJ h.b6
theorem au.has{i:Nat}(hi:L[i]?=some A)(h:au F w₀ L w):Has A w:=
 let ⟨D,aa,ab,_⟩:=h.sep.at_ hi
 ⟨D,aa,fun k ah=>(ab k ah).2⟩
theorem au.cell{a:Addr}{v:aV}(h:bF w₀ L w)(ag:w₀.cell? a=some v):w.cell? a=some v:=
 (World.cell?_of_block (w:=w₀) (h.b6.block a.block (World.block_lt_of_cell? w₀ a ag))).trans ag
theorem au.swap{c8:bi}{i:Nat}(hi:L[i]?=some A)(bs:∀(w:ao) (D:Nat→Prop),A.ok w D→(∀k,D k→k<w.heap.size)→∃gk:Nat→Prop,c8.ok w gk∧∀k,gk k→D k)(h:au F w₀ L w):au F w₀ (L.set i c8) w:=by
 obtain⟨D,aa,ab,an⟩:=h.sep.at_ hi;obtain⟨gk,k1,k2⟩:=bs w D aa (fun k ah=>(ab k ah).2);exact⟨h.b6,h.lt,an w c8 gk (fun _ _ _ _=>I) (cq _) k1 (fun k ah=>⟨.inl (k2 k ah),(ab k (k2 k ah)).2⟩) (fun k ah=>h.y3 k ah)⟩
theorem au.rO{i:Nat}(hi:L[i]?=some A)(h:au F w₀ L w):∃D:Nat→Prop,A.ok w D∧(∀k,D k→k<w.heap.size)∧∀(ar:ao) (c8:bi) (gk:Nat→Prop),
  Fr (fun k=>k<w.heap.size∧¬D k) w ar→c8.ok ar gk→(∀k,gk k→(D k∨w.heap.size≤k)∧k<ar.heap.size)→au F w₀ (L.set i c8) ar:=by
 obtain⟨D,aa,ab,an⟩:=h.sep.at_ hi;refine⟨D,aa,fun k ah=>(ab k ah).2,fun ar c8 gk aI aj aW=>⟨h.b6.trans (aI.mono (fun k ah=>⟨h.y3 k ah,fun eg=>(ab k eg).1 ah⟩)),h.lt,?_⟩⟩;exact an ar c8 gk (fun k ah _ ca=>aI.block k ⟨ca,ah⟩) aI.size aj aW (fun k ah=>h.y3 k ah)
end
def aE(g:Nat)(T:aO)(cs:cJ):bi where
 ok w D:=(∀k,D k↔k=g)∧w.heap[g]?=some (.cells cs T (0,0))
 loc:=fun⟨aa,ab⟩ ad=>⟨aa,(ad _ ((aa _).2 rfl)).trans ab⟩
theorem qC{w:ao}{g:Nat}{T:aO}{cs:cJ}(h:w.heap[g]?=some (.cells cs T (0,0)))(j:Nat):w.cell? ⟨g,j,none⟩=cs[j]?:=by simp[World.cell?,h]
theorem ZK{w:ao}{g:Nat}{T:aO}{cs:cJ}(h:w.heap[g]?=some (.cells cs T (0,0)))(j:Nat):w.frozen? ⟨g,j,none⟩=false:=by simp[World.frozen?,h]
theorem aar{w:ao}{g:Nat}{T:aO}{cs:cJ}(h:w.heap[g]?=some (.cells cs T (0,0)))(j:Nat)(v:aV):(w.setCell ⟨g,j,none⟩ v).heap[g]?=some (.cells (cs.setIfInBounds j v) T (0,0)):=by
 simp[World.setCell,vU,h]
theorem TK(w:ao)(a:Addr)(v:aV){k:Nat}(h:k≠a.block):(w.setCell a v).heap[k]?=w.heap[k]?:=Go.RowKit.Below.heap_setCell w a v k h
section
variable{F:Nat→Prop}{w₀ w ar:ao}{L dv:List bi}{A:bi}{g:Nat}{T:aO}{cs:cJ}
theorem au.cP{i:Nat}(hi:L[i]?=some (aE g T cs)){j:Nat}{v:aV}(br:cs[j]?=some v)(h:au F w₀ L w):w.cell? ⟨g,j,none⟩=some v:=by
 obtain⟨D,⟨_,ab⟩,_⟩:=h.sep.at_ hi;rw[qC ab];exact br
theorem au.acY{i:Nat}(hi:L[i]?=some (aE g T cs))(j:Nat)(h:au F w₀ L w):w.frozen? ⟨g,j,none⟩=false:=by
 obtain⟨D,⟨_,ab⟩,_⟩:=h.sep.at_ hi;exact ZK ab j
theorem au.Wk{i:Nat}(hi:L[i]?=some (aE g T cs))(j:Nat)(v:aV)(h:au F w₀ L w):au F w₀ (L.set i (aE g T (cs.setIfInBounds j v))) (w.setCell ⟨g,j,none⟩ v):=by
 obtain⟨D,⟨aa,ab⟩,an,aK⟩:=h.rO hi;refine aK _ _ D ⟨I,I,I,by simp[World.setCell],fun k ah=>TK _ _ _ (fun e=>ah.2 ((aa k).2 e))⟩ ⟨aa,aar ab j v⟩ (fun k ah=>⟨.inl ah,by simp[World.setCell];exact an k ah⟩)
theorem au.alloc(T:aO)(cs:cJ)(h:au F w₀ L w):au F w₀ (aE w.heap.size T cs::L) (w.alloc (.cells cs T)):=
 h.join (dv:=[aE w.heap.size T cs]) ⟨⟨rfl,rfl,rfl,by simp,fun k ah=>Uj w _ k ah⟩,fun _ ah=>ah,
  ⟨fun k=>k=w.heap.size,⟨fun k=>qT,heap_alloc_new w _⟩,fun k ah=>⟨by simp[oj];omega,by simp;omega⟩,trivial⟩⟩
end
section
variable{P:a8}{w:ao}
def gX(op:BinOp)(k:cg)(p q:Int):Int:=
 let a:=BitVec.ofInt k.bits p
 let b:=BitVec.ofInt k.bits q
 k.wrap (match op with
  |.and=>a&&&b
  |.or=>a|||b
  |.xor=>a^^^b
  |_=>a&&& ~~~b).toNat
theorem abo(op:BinOp)(t:aO)(x y:bf)(k cb:cg)(p q:Int):(eqGuard op t x y (.int k p) (.int cb q)).run P w=.ok () w:=by
 unfold eqGuard;cases op<;>rfl
class bX (P:a8) (T f:Nat) (off:outParam Nat):Prop where
 run:∀(b o:Nat) (w:ao),(Instr.fieldAt T (.pointer (some ⟨b,o,Option.none⟩)) f).run P w=.ok (.pointer (some ⟨b,o+off,Option.none⟩)) w
theorem lB(b o j:Nat):(⟨b,o,Option.none⟩:Addr).add j=⟨b,o+j,Option.none⟩:=by
 unfold Addr.add;split
 ·rename_i h;subst h;rfl
 ·rfl
theorem mf{t:aO}{i:TypeInfo}(h:P.info? t=some i)(w:ao):(typeInfo t).run P w=.ok i w:=by
 simp only[typeInfo,Sem.run_bind,run_program,Result.andThen_ok,h,Sem.run_pure]
theorem q5{α:Type}{t:aO}{f:TypeInfo→α}{v:α}(h:(P.info? t).map f=some v):∃i,P.info? t=some i∧f i=v:=by
 cases hi:P.info? t with
 |none=>rw[hi] at h;cases h
 |some i=>rw[hi] at h;exact⟨i,I,by simpa using h⟩
theorem bX.mk'{T f off:Nat}{cZ:Array Field}{fl:Field}(cE:P.underlying T=some (.struct cZ))(aI:cZ[f]?=some fl)(av:fl.offset=off)(hi:(P.info? fl.type).map (fun i=>i.size==0)=some false):bX P T f off:=by
 obtain⟨i,hi,aq⟩:=q5 hi;refine⟨fun b o w=>?_⟩;have ud:¬i.size=0:=by simpa using aq
 simp only[Instr.fieldAt,Sem.run_bind,run_underlying cE,Sem.run_pure,Result.andThen_ok,aI,Instr.sureAddr,fieldPlace,sizeOf,mf hi,az ud,lB,av]
def wJ:TypeDesc→Bool
 |.struct _|.array _ _=>true
 |_=>false
class One (P:a8) (T:aO):Prop where
 agg:∀w,(isAgg T).run P w=.ok false w
 size:∀w,(sizeOf T).run P w=.ok 1 w
theorem One.mk'{T:Nat}{d:TypeDesc}(cE:P.underlying T=some d)(aW:wJ d=false)(hi:(P.info? T).map (·.size)=some 1):One P T:=by
 obtain⟨i,hi,aq⟩:=q5 hi;refine⟨fun w=>?_,fun w=>?_⟩
 ·simp only[isAgg,Sem.run_bind,run_underlying cE,Result.andThen_ok];cases d<;>first|rfl|(cases aW;done)
 ·simp only[sizeOf,Sem.run_bind,mf hi,Sem.run_pure,Result.andThen_ok,aq]
class wv (P:a8) (T:aO) (k:outParam cg):Prop where
 under:P.underlying T=some (.int k)
class dN (P:a8) (T:aO) (E:outParam aO) (sz by_:outParam Nat) (z:outParam aV):Prop where
 under:P.underlying T=some (.slice E)
 rq:∃i,P.info? E=some i∧i.size=sz∧i.bytes=by_∧i.zero=some z
theorem dN.mk'{T E sz by_:Nat}{z:aV}(cE:P.underlying T=some (.slice E))(hi:(P.info? E).map (fun i=>(i.size,i.bytes,i.zero))=some (sz,by_,some z)):dN P T E sz by_ z:=by
 obtain⟨i,hi,aq⟩:=q5 hi;simp only[fs] at aq;exact⟨cE,i,hi,aq.1,aq.2.1,aq.2.2⟩
theorem Cc{T:aO}[aa:One P T]{a:Addr}{v:aV}(ag:w.cell? a=some v):(Instr.loadAt T (.pointer (some a))).run P w=.ok v w:=by
 simp only[Instr.loadAt,Instr.sureAddr,Sem.run_bind,Sem.run_pure,Result.andThen_ok,loadVar,aa.agg,ul,oy];simp only[load,Sem.run,ag]
def pn:aV→Bool
 |.agg _|.tuple _=>false
 |_=>true
theorem OW{v:aV}(h:pn v=true):v.cells= #[v]:=by cases v<;>simp_all [pn,Value.cells]
theorem Ox{a:Addr}{v u:aV}(aa:pn v=true)(ag:w.cell? a=some u)(aI:w.frozen? a=false):(store a v).run P w=.ok () (w.setCell a v):=by
 unfold store;cases v<;>simp_all [pn,Sem.run]
theorem amB{T:aO}[aa:One P T]{a:Addr}{v u:aV}(br:pn v=true)(ag:w.cell? a=some u)(aI:w.frozen? a=false):(Instr.storeAt T (.pointer (some a)) v).run P w=.ok () (w.setCell a v):=by
 simp only[Instr.storeAt,Instr.sureAddr,Sem.run_bind,Sem.run_pure,Result.andThen_ok,storeVar,OW br,aa.size,Ag,iG,A0];simp only[ne_eq,not_true,oy,iO];simp[storeCells,Addr.add,Ox br ag aI]
theorem RF(k:cg){n:Int}(aa:k.min≤n)(ab:n≤k.max):k.wrap n=n:=by
 cases k<;>simp only[IntKind.min,IntKind.max,IntKind.signed,IntKind.bits,IntKind.wrap] at* <;>simp at* <;>omega
theorem bm{n:Int}(h: -9223372036854775808≤n∧n≤9223372036854775807):IntKind.i64.wrap n=n:=
 RF .i64 (by simp[IntKind.min,IntKind.signed,IntKind.bits];omega) (by simp[IntKind.max,IntKind.signed,IntKind.bits];omega)
theorem aj5{n:Int}(h:0≤n∧n≤255):IntKind.u8.wrap n=n:=
 RF .u8 (by simp[IntKind.min,IntKind.signed];omega) (by simp[IntKind.max,IntKind.signed,IntKind.bits];omega)
theorem MY{n:Int}(h:0≤n∧n≤18446744073709551615):IntKind.u64.wrap n=n:=
 RF .u64 (by simp[IntKind.min,IntKind.signed];omega) (by simp[IntKind.max,IntKind.signed,IntKind.bits];omega)
theorem UM(t:aO)(k:cg)(p q r:Int)(aH:k.wrap (p+q)=r):(binOp .add t (.int k p) (.int k q)).run P w=.ok (.int k r) w:=by
 subst aH;simp[binOp,Op.intArith]
theorem Tm(t:aO)(k:cg)(p q r:Int)(aH:k.wrap (p- q)=r):(binOp .sub t (.int k p) (.int k q)).run P w=.ok (.int k r) w:=by
 subst aH;simp[binOp,Op.intArith]
theorem V5(t:aO)(k:cg)(p q r:Int)(aH:k.wrap (p*q)=r):(binOp .mul t (.int k p) (.int k q)).run P w=.ok (.int k r) w:=by
 subst aH;simp[binOp,Op.intArith]
def Zh:BinOp→Bool
 |.and|.or|.xor|.andNot=>true
 |_=>false
def amZ:BinOp→Bool
 |.eql|.neq|.lss|.leq|.gtr|.geq=>true
 |_=>false
theorem ZE(op:BinOp)(t:aO)(k:cg)(p q:Int)(rr:Zh op=true):(binOp op t (.int k p) (.int k q)).run P w=.ok (.int k (gX op k p q)) w:=by
 cases op<;>first
  |(exfalso;cases rr;done)
  |(simp[binOp,Op.intBits,gX])
theorem T2(t:aO)(k:cg)(p q:Int)(aM:q≠0):(binOp .rem t (.int k p) (.int k q)).run P w=.ok (.int k (p.tmod q)) w:=by
 simp[binOp,Op.intDiv,aM]
theorem Xk(t:aO)(k:cg)(p q r:Int)(aM:q≠0)(aH:k.wrap (p.tdiv q)=r):(binOp .quo t (.int k p) (.int k q)).run P w=.ok (.int k r) w:=by
 subst aH;simp[binOp,Op.intDiv,aM]
theorem ZC(t:aO)(k cb:cg)(p q r:Int)(aM:0≤q)(aH:k.wrap (p*2^(min q.toNat k.bits))=r):(binOp .shl t (.int k p) (.int cb q)).run P w=.ok (.int k r) w:=by
 subst aH;have:¬q<0:=by omega
 simp[binOp,Op.shift,this]
theorem Za(t:aO)(k cb:cg)(p q:Int)(aM:0≤q):(binOp .shr t (.int k p) (.int cb q)).run P w=.ok (.int k (p.fdiv (2^(min q.toNat k.bits)))) w:=by
 have:¬q<0:=by omega
 simp[binOp,Op.shift,this]
def HD(op:BinOp)(p q:Int):Bool:=
 match op with
 |.eql=>decide (p=q)
 |.neq=> !decide (p=q)
 |.lss=>decide (p<q)
 |.leq=>decide (p≤q)
 |.gtr=>decide (q<p)
 |_=>decide (q≤p)
theorem yh(op:BinOp)(t:aO)(k:cg)(p q:Int)(rr:amZ op=true):(binOp op t (.int k p) (.int k q)).run P w=.ok (.bool (HD op p q)) w:=by
 cases op<;>first
  |(exfalso;cases rr;done)
  |(simp[binOp,Op.intCmp,HD];try rfl)
end
section
variable{P:a8}{ops:Array Oper}{S:ao→Prop}{K:Act→ao→Prop}{p:eR}{n:Nat}{l:List (Nat×aV)}{C:ao→Prop}{fl:Bool}{i:Nat}{ty dr dk tR:aO}{x y z:bf}
theorem ac{d:Nat}{v:aV}(av:cG ops n l i=some (some d,.move x,ty))(af:bk l x=some v)(h:U P ops S K p n ((d,v)::l) C):U P ops S K (.bB fl i p) n l C:=
 U.pure av (fun a w o he aa _=>by simp only[execOp,aa,he.bk af,Sem.run_pure]) h
theorem ak{d:Nat}{v:aV}(av:cG ops n l i=some (some d,.assign x,ty))(af:bk l x=some v)(h:U P ops S K p n ((d,v)::l) C):U P ops S K (.bB fl i p) n l C:=
 U.pure av (fun a w o he aa _=>by simp only[execOp,aa,he.bk af,Sem.run_pure]) h
theorem fe{d:Nat}{u:aV}(av:cG ops n l i=some (some d,.pick x y z,ty))(af:bk l x=some (.bool true))(aF:bk l y=some u)(h:U P ops S K p n ((d,u)::l) C):U P ops S K (.bB fl i p) n l C:=
 U.pure av (fun a w o he aa _=>by simp only[execOp,aa,he.bk af,he.bk aF,asBool,Sem.run_bind,Sem.run_pure,Result.andThen_ok,jU]) h
theorem ef{d:Nat}{u:aV}(av:cG ops n l i=some (some d,.pick x y z,ty))(af:bk l x=some (.bool false))(aL:bk l z=some u)(h:U P ops S K p n ((d,u)::l) C):U P ops S K (.bB fl i p) n l C:=
 U.pure av (fun a w o he aa _=>by simp only[execOp,aa,he.bk af,he.bk aL,asBool,Sem.run_bind,Sem.run_pure,Result.andThen_ok,ul,oy]) h
theorem bI{d:Nat}{a0:Addr}(av:cG ops n l i=some (some d,.nilCheck x,ty))(af:bk l x=some (.pointer (some a0)))(h:U P ops S K p n ((d,(.pointer (some a0)))::l) C):U P ops S K (.bB fl i p) n l C:=
 U.pure av (fun a w o he aa _=>by simp only[execOp,aa,he.bk af,Sem.run_pure]) h
theorem pa{d:Nat}{op:BinOp}{k cb:cg}{a b:Int}{v:aV}(av:cG ops n l i=some (some d,.binOp op ty x y dr,dk))(af:bk l x=some (.int k a))(aF:bk l y=some (.int cb b))
  (aH:∀w,(binOp op ty (.int k a) (.int cb b)).run P w=.ok v w) (h:U P ops S K p n ((d,v)::l) C):U P ops S K (.bB fl i p) n l C:=
 U.pure av (fun a w o he aa _=>by simp only[execOp,aa,he.bk af,he.bk aF,Sem.run_bind,abo,Result.andThen_ok,aH,Sem.run_pure]) h
theorem b1{d:Nat}{k:cg}{a b r:Int}(av:cG ops n l i=some (some d,.binOp .add ty x y dr,dk))(af:bk l x=some (.int k a))(aF:bk l y=some (.int k b))
  (aH:k.wrap (a+b)=r) (h:U P ops S K p n ((d,(.int k r))::l) C):U P ops S K (.bB fl i p) n l C:=
 pa av af aF (fun _=>UM _ k a b r aH) h
theorem eB{d:Nat}{k:cg}{a b r:Int}(av:cG ops n l i=some (some d,.binOp .sub ty x y dr,dk))(af:bk l x=some (.int k a))(aF:bk l y=some (.int k b))
  (aH:k.wrap (a- b)=r) (h:U P ops S K p n ((d,(.int k r))::l) C):U P ops S K (.bB fl i p) n l C:=
 pa av af aF (fun _=>Tm _ k a b r aH) h
theorem jE{d:Nat}{k:cg}{a b r:Int}(av:cG ops n l i=some (some d,.binOp .mul ty x y dr,dk))(af:bk l x=some (.int k a))(aF:bk l y=some (.int k b))
  (aH:k.wrap (a*b)=r) (h:U P ops S K p n ((d,(.int k r))::l) C):U P ops S K (.bB fl i p) n l C:=
 pa av af aF (fun _=>V5 _ k a b r aH) h
theorem dY{d:Nat}{op:BinOp}{k:cg}{a b r:Int}(av:cG ops n l i=some (some d,.binOp op ty x y dr,dk))(af:bk l x=some (.int k a))(aF:bk l y=some (.int k b))
  (rr:Zh op=true) (aH:gX op k a b=r) (h:U P ops S K p n ((d,(.int k r))::l) C):U P ops S K (.bB fl i p) n l C:=
 pa av af aF (fun _=>by rw[←aH];exact ZE op _ k a b rr) h
theorem h4{d:Nat}{k:cg}{a b r:Int}(av:cG ops n l i=some (some d,.binOp .rem ty x y dr,dk))(af:bk l x=some (.int k a))(aF:bk l y=some (.int k b))
  (ad:b≠0) (aH:a.tmod b=r) (h:U P ops S K p n ((d,(.int k r))::l) C):U P ops S K (.bB fl i p) n l C:=
 pa av af aF (fun _=>by rw[←aH];exact T2 _ k a b ad) h
theorem mM{d:Nat}{k:cg}{a b r:Int}(av:cG ops n l i=some (some d,.binOp .quo ty x y dr,dk))(af:bk l x=some (.int k a))(aF:bk l y=some (.int k b))
  (ad:b≠0) (aH:k.wrap (a.tdiv b)=r) (h:U P ops S K p n ((d,(.int k r))::l) C):U P ops S K (.bB fl i p) n l C:=
 pa av af aF (fun _=>Xk _ k a b r ad aH) h
theorem ir{d:Nat}{k cb:cg}{a b r:Int}(av:cG ops n l i=some (some d,.binOp .shl ty x y dr,dk))(af:bk l x=some (.int k a))(aF:bk l y=some (.int cb b))
  (ad:0≤b) (aH:k.wrap (a*2^(min b.toNat k.bits))=r) (h:U P ops S K p n ((d,(.int k r))::l) C):U P ops S K (.bB fl i p) n l C:=
 pa av af aF (fun _=>ZC _ k cb a b r ad aH) h
theorem iw{d:Nat}{k cb:cg}{a b r:Int}(av:cG ops n l i=some (some d,.binOp .shr ty x y dr,dk))(af:bk l x=some (.int k a))(aF:bk l y=some (.int cb b))
  (ad:0≤b) (aH:a.fdiv (2^(min b.toNat k.bits))=r) (h:U P ops S K p n ((d,(.int k r))::l) C):U P ops S K (.bB fl i p) n l C:=
 pa av af aF (fun _=>by rw[←aH];exact Za _ k cb a b ad) h
theorem gy{d:Nat}{k:cg}{a b:Int}{r:Bool}(av:cG ops n l i=some (some d,.binOp .eql ty x y dr,dk))(af:bk l x=some (.int k a))(aF:bk l y=some (.int k b))
  (aH:decide (a=b)=r) (h:U P ops S K p n ((d,(.bool r))::l) C):U P ops S K (.bB fl i p) n l C:=
 pa av af aF (fun _=>by rw[←aH];exact yh .eql _ k a b I) h
theorem cQ{d:Nat}{k:cg}{a b:Int}{r:Bool}(av:cG ops n l i=some (some d,.binOp .lss ty x y dr,dk))(af:bk l x=some (.int k a))(aF:bk l y=some (.int k b))
  (aH:decide (a<b)=r) (h:U P ops S K p n ((d,(.bool r))::l) C):U P ops S K (.bB fl i p) n l C:=
 pa av af aF (fun _=>by rw[←aH];exact yh .lss _ k a b I) h
theorem Bu{d:Nat}{k:cg}{a b:Int}{r:Bool}(av:cG ops n l i=some (some d,.binOp .leq ty x y dr,dk))(af:bk l x=some (.int k a))(aF:bk l y=some (.int k b))
  (aH:decide (a≤b)=r) (h:U P ops S K p n ((d,(.bool r))::l) C):U P ops S K (.bB fl i p) n l C:=
 pa av af aF (fun _=>by rw[←aH];exact yh .leq _ k a b I) h
theorem fD{d:Nat}{k:cg}{a b:Int}{r:Bool}(av:cG ops n l i=some (some d,.binOp .gtr ty x y dr,dk))(af:bk l x=some (.int k a))(aF:bk l y=some (.int k b))
  (aH:decide (b<a)=r) (h:U P ops S K p n ((d,(.bool r))::l) C):U P ops S K (.bB fl i p) n l C:=
 pa av af aF (fun _=>by rw[←aH];exact yh .gtr _ k a b I) h
theorem jz{d:Nat}{k:cg}{a b:Int}{r:Bool}(av:cG ops n l i=some (some d,.binOp .geq ty x y dr,dk))(af:bk l x=some (.int k a))(aF:bk l y=some (.int k b))
  (aH:decide (b≤a)=r) (h:U P ops S K p n ((d,(.bool r))::l) C):U P ops S K (.bB fl i p) n l C:=
 pa av af aF (fun _=>by rw[←aH];exact yh .geq _ k a b I) h
theorem jT{d:Nat}{k:cg}{a b:Int}{r:Bool}(av:cG ops n l i=some (some d,.binOp .neq ty x y dr,dk))(af:bk l x=some (.int k a))(aF:bk l y=some (.int k b))
  (aH:decide (a≠b)=r) (h:U P ops S K p n ((d,(.bool r))::l) C):U P ops S K (.bB fl i p) n l C:=
 pa av af aF (fun w=>by rw[←aH];have:=yh (P:=P) (w:=w) .neq ty k a b rfl;rw[this];simp[HD]) h
theorem gW{d:Nat}{k cb k1:cg}{a r:Int}(av:cG ops n l i=some (some d,.convert ty dr x,dk))[aq:wv P ty k1][cE:wv P dr cb](af:bk l x=some (.int k a))(aH:cb.wrap a=r)(h:U P ops S K p n ((d,(.int cb r))::l) C):U P ops S K (.bB fl i p) n l C:=
 U.pure av (fun b w o he aa _=>by
  simp only[execOp,aa,he.bk af,Sem.run_bind,convert,run_underlying aq.under,run_underlying cE.under,Result.andThen_ok,Conv.intToInt,Sem.run_pure,aH]) h
theorem ls{d:Nat}{b:Bool}(av:cG ops n l i=some (some d,.unOp .not ty x,dk))(af:bk l x=some (.bool b))(h:U P ops S K p n ((d,(.bool (!b)))::l) C):U P ops S K (.bB fl i p) n l C:=
 U.pure av (fun a w o he aa _=>by simp only[execOp,aa,he.bk af,Sem.run_bind,Op.unary,Result.andThen_ok,Sem.run_pure]) h
theorem Rw{d:Nat}{k:cg}{a r:Int}(av:cG ops n l i=some (some d,.unOp .neg ty x,dk))(af:bk l x=some (.int k a))(aH:k.wrap (0- a)=r)(h:U P ops S K p n ((d,(.int k r))::l) C):U P ops S K (.bB fl i p) n l C:=
 U.pure av (fun b w o he aa _=>by simp only[execOp,aa,he.bk af,Sem.run_bind,Op.unary,Op.intArith,Result.andThen_ok,Sem.run_pure,aH]) h
theorem cB{d:Nat}{vs:cJ}{j:Nat}{v:aV}(av:cG ops n l i=some (some d,.extract x j,ty))(af:bk l x=some (.tuple vs))(br:vs[j]?=some v)(h:U P ops S K p n ((d,v)::l) C):U P ops S K (.bB fl i p) n l C:=
 U.pure av (fun a w o he aa _=>by simp only[execOp,aa,he.bk af,Sem.run_bind,Instr.extract,br,Result.andThen_ok,Sem.run_pure]) h
theorem bd{d f off b o:Nat}(av:cG ops n l i=some (some d,.fieldAddr ty x f,dk))[aI:bX P ty f off](af:bk l x=some (.pointer (some ⟨b,o,none⟩)))(h:U P ops S K p n ((d,(.pointer (some ⟨b,o+off,none⟩)))::l) C):U P ops S K (.bB fl i p) n l C:=
 U.pure av (fun a w o he aa _=>by simp only[execOp,aa,he.bk af,Sem.run_bind,aI.run,Result.andThen_ok,Sem.run_pure]) h
theorem oo{d:Nat}{fn:Fn}{cZ cs:Array bf}{ru vs:cw}(av:cG ops n l i=some (some d,.makeFunc fn cZ cs,ty))(aa:iY l cZ.toList=some ru)(ab:iY l cs.toList=some vs)(h:U P ops S K p n ((d,(.func fn ru.toArray vs.toArray))::l) C):U P ops S K (.bB fl i p) n l C:=
 U.pure av (fun a w o he an _=>by
  have bu:cZ.map a.eval=ru.toArray:=by apply mh;rw[oV];exact he.iY aa
  have bD:cs.map a.eval=vs.toArray:=by apply mh;rw[oV];exact he.iY ab
  simp only[execOp,an,bu,bD,Sem.run_bind,Instr.makeFunc,Result.andThen_ok,Sem.run_pure]) h
theorem dc{d:Nat}{a0:Addr}{v:aV}(av:cG ops n l i=some (some d,.load ty x,dk))[One P ty](af:bk l x=some (.pointer (some a0)))(ag:∀w,S w→w.cell? a0=some v)(h:U P ops S K p n ((d,v)::l) C):U P ops S K (.bB true i p) n l C:=
 U.val av (fun a w o he aq _ aa _=>by simp only[execOp,aa,he.bk af,Sem.run_bind,Cc (ag w (aq rfl)),Result.andThen_ok,Sem.run_pure]) h
theorem c5{d:Nat}{a0:Addr}{v:aV}(av:cG ops n l i=some (some d,.load ty x,dk))[One P ty](af:bk l x=some (.pointer (some a0)))(ag:∀w,C w→w.cell? a0=some v)(h:U P ops S K p n ((d,v)::l) C):U P ops S K (.bB false i p) n l C:=
 U.val av (fun a w o he _ aq aa _=>by simp only[execOp,aa,he.bk af,Sem.run_bind,Cc (ag w (aq rfl)),Result.andThen_ok,Sem.run_pure]) h
theorem KD{ec:ao→Prop}{a0:Addr}{v:aV}(av:cG ops n l i=some (none,.store ty x y,dk))[One P ty](af:bk l x=some (.pointer (some a0)))(aF:bk l y=some v)(br:pn v=true)
  (ag:∀w,C w→(∃u,w.cell? a0=some u)∧w.frozen? a0=false∧ec (w.setCell a0 v)) (be:∀w,ec w→S w) (h:U P ops S K p n (l) ec):U P ops S K (.bB false i p) n l C:=
 U.act (X:=Unit) (v:=fun _=>undef) (ec:=fun _=>ec) av (fun a w o he LG aa _=>by
  obtain⟨⟨u,hu⟩,aI,qg⟩:=ag w LG;exact⟨(),w.setCell a0 v,.inr ⟨by simp only[execOp,aa,he.bk af,he.bk aF,Sem.run_bind,amB br hu aI,Result.andThen_ok,Sem.run_pure],I⟩,qg⟩) (fun _=>be) (fun _=>h)
theorem b8{f:dn}{fn:Func}{c:Code}{args:cw}{w:ao}{R:Ending→ao→Prop}(aI:P.funcs[f]?=some fn)(ad:fn.body=some c)(aQ:fn.ntmps=n)(hlen:Nat.ble args.length n=true)
  (h:J P (xP fn R P) [] c n (u6 0 args) (bF w [])):Calls P f args.toArray w R:=
 Kp aI ad aQ hlen ⟨fun a v he br=>h.run a v he (au.of_eq br)⟩
class aU (P:a8) (g:dn):Prop where
 run:∀args w,(callFunc g args).run P w=.ok (.enter g args) w
theorem aU.mk'{g:dn}{fn:Func}(aI:P.funcs[g]?=some fn)(ad:fn.body.isNone=false)(aQ:(fn.name== "runtime.NumGoroutine")=false):aU P g:=
 ⟨fun args w=>by simp only[callFunc,Sem.run_bind,run_program,Result.andThen_ok,aI,aQ,ad,ul,oy,Sem.run_pure]⟩
theorem U.enter{d:eu}{op:Op}{ty:aO}{g:dn}{args:cJ}{X:Type}{v:X→aV}{pf:X→Prop}{ec:X→ao→Prop}(av:cG ops n l i=some (d,op,ty))
  (hn:∀a w (o:Oper),Env n l a→o.op=op→o.type=ty→(execOp a.eval o).run P w=.ok (.enter g args) w)
  (ag:∀w,C w→Calls P g args w (fun e ar=>∃x,e=.returned (v x)∧pf x∧ec x ar)) (be:∀x w,ec x w→S w)
  (h:∀x,pf x→U P ops S K p n (uO d (v x) l) (ec x)):U P ops S K (.bB false i p) n l C:=by
 refine⟨fun a w he LG _=>?_⟩;unfold cG at av;split at av
 ·rename_i o gb;by_cases ad:(nY ops l o.guard&&nA n o.dst)=true
  ·rw[ad] at av;simp only[cp,eb,fs] at av;obtain⟨rfl,rfl,rfl⟩:=av;rw[b7] at ad;simp only[je,gb,HB he ad.1,jU,Oper.wp,hn a w o he rfl rfl,Oper.upon_enter];refine(ag w LG).mono ?_;rintro e ar ⟨x,rfl,aG,qg⟩;exact⟨be x ar qg,(h x aG).run _ ar (he.nD ad.2 (v x)) qg (be x ar qg)⟩
  ·have:(nY ops l o.guard&&nA n o.dst)=false:=by simpa using ad
   rw[this] at av;cases av
 ·cases av
theorem Fs{a:Act}{w:ao}{o:Oper}{x:bf}{dz:Array bf}{eD:Array aO}{g:dn}{cZ cs:cJ}{vs L:cw}(he:Env n l a)(aa:o.op=.call ⟨.value x,dz,eD⟩)
  (af:bk l x=some (.func (.func g) cZ cs)) (has:iY l dz.toList=some vs) (cF:cZ.toList++vs++cs.toList=L) [bg:aU P g]:(execOp a.eval o).run P w=.ok (.enter g L.toArray) w:=by
 have bu:dz.map a.eval=vs.toArray:=by apply mh;rw[oV];exact he.iY has
 have bD:cZ++vs.toArray++cs=L.toArray:=by rw[←cF];simp
 simp only[execOp,aa,resolve,bu,he.bk af,Deferred.ofValue,Sem.run_bind,Sem.run_pure,Result.andThen_ok,invoke,bD,bg.run]
def fh(P:a8)(g:dn)(args:cw)(w:ao){X:Type}(v:X→aV)(pf:X→Prop)(L:X→List bi):Prop:=
 Calls P g args.toArray w (fun e ar=>∃x,e=.returned (v x)∧pf x∧bF w (L x) ar)
def cC(P:a8)(g:dn)(args:cw)(w:ao)(v:aV):Prop:=
 Calls P g args.toArray w (fun e ar=>e=.returned v∧bF w [] ar)
theorem dh{d:Nat}{F:Nat→Prop}{w₀:ao}{A:List bi}{dz:Array bf}{eD:Array aO}{g:dn}{cZ cs:cJ}{vs L:cw}{X:Type}{v:X→aV}{pf:X→Prop}{dv:X→List bi}
  (av:cG ops n l i=some (some d,.call ⟨.value x,dz,eD⟩,ty)) (af:bk l x=some (.func (.func g) cZ cs)) (has:iY l dz.toList=some vs) (cF:cZ.toList++vs++cs.toList=L) [bg:aU P g]
  (ag:∀w,au F w₀ A w→fh P g L w v pf dv) (be:∀w,au F w₀ A w→S w) (h:∀x,pf x→U P ops S K p n ((d,(v x))::l) (au F w₀ (dv x++A))):U P ops S K (.bB false i p) n l (au F w₀ A):=by
 refine U.enter (ec:=fun x w=>au F w₀ (dv x++A) w) av (fun a w o he aa _=>Fs he aa af has cF) (fun w hw=>(ag w hw).mono ?_) (fun x w hw=>be w ?_) h
 ·rintro e ar ⟨x,he,aG,aq⟩;exact⟨x,he,aG,hw.join aq⟩
 ·exact⟨hw.b6,hw.lt,Sep.drop hw.sep⟩
theorem bJ{d:Nat}{F:Nat→Prop}{w₀:ao}{A:List bi}{dz:Array bf}{eD:Array aO}{g:dn}{cZ cs:cJ}{vs L:cw}{v:aV}
  (av:cG ops n l i=some (some d,.call ⟨.value x,dz,eD⟩,ty)) (af:bk l x=some (.func (.func g) cZ cs)) (has:iY l dz.toList=some vs) (cF:cZ.toList++vs++cs.toList=L) [bg:aU P g]
  (ag:∀w,au F w₀ A w→cC P g L w v) (be:∀w,au F w₀ A w→S w) (h:U P ops S K p n ((d,v)::l) (au F w₀ A)):U P ops S K (.bB false i p) n l (au F w₀ A):=
 dh (X:=Unit) (v:=fun _=>v) (pf:=fun _=>True) (dv:=fun _=>[]) av af has cF (fun w hw=>(ag w hw).mono (fun _ _ ⟨aa,ab⟩=>⟨(),aa,trivial,ab⟩)) be (fun _ _=>h)
end
def ob:aN→Nat
 |some a=>a.block
 |none=>0
def ju:aN→Nat
 |some a=>a.off
 |none=>0
def aP(sz:Nat)(A:aN)(n:Nat)(vs:cw):bi where
 ok w D:=vs.length=n*sz∧(n≠0→A=some ⟨ob A,ju A,none⟩∧D (ob A)∧∀j v,vs[j]?=some v→w.cell? ⟨ob A,ju A+j,none⟩=some v)
 loc:=fun⟨aa,ab⟩ ad=>⟨aa,fun aQ=>⟨(ab aQ).1,(ab aQ).2.1,fun j v ax=>(World.cell?_of_block (ad _ (ab aQ).2.1)).trans ((ab aQ).2.2 j v ax)⟩⟩
def own(E:aO)(sz:Nat)(A:aN)(n c:Nat)(vs:cw):bi where
 ok w D:=w.ownsRow 0 E sz (.slice A n c) n vs∧(∀k,D k↔A≠none∧k=ob A)
 loc:=by
  rintro w ar D ⟨⟨aa,ab⟩,an⟩ ad
  refine⟨⟨aa,?_⟩,an⟩
  rcases ab with ab|⟨g,cap,cur,br,bg,c6,r⟩
  ·exact .inl ab
  ·refine .inr ⟨g,cap,cur,br,bg,?_,r⟩
   injection br with bs
   subst bs
   rw[ad g ((an g).2 ⟨by simp,rfl⟩)]
   exact c6
theorem Ug{E:aO}{sz:Nat}{A:aN}{n c:Nat}{vs:cw}{w:ao}{D:Nat→Prop}(h:(own E sz A n c vs).ok w D):(aP sz A n vs).ok w D:=by
 obtain⟨⟨aa,ab⟩,an⟩:=h;refine⟨aa,fun aQ=>?_⟩;rcases ab with⟨_,h⟩|⟨g,cap,cur,br,bg,c6,ag,hm,aq,bb⟩
 ·exact absurd h aQ
 ·injection br with bs;subst bs;refine⟨I,(an g).2 ⟨by simp,I⟩,fun j v ax=>?_⟩;simp only[ob,ju,iO];rw[qC c6];rw[←bb,mj] at ax;split at ax
  ·simpa using ax
  ·cases ax
theorem Has.xT{sz:Nat}{A:aN}{n:Nat}{vs:cw}{w:ao}(h:Has (aP sz A n vs) w){j:Nat}{v:aV}(aQ:n≠0)(ax:vs[j]?=some v):A=some ⟨ob A,ju A,none⟩∧w.cell? ⟨ob A,ju A+j,none⟩=some v:=by
 obtain⟨D,⟨_,ab⟩,_⟩:=h;exact⟨(ab aQ).1,(ab aQ).2.2 j v ax⟩
theorem Has.hE{sz:Nat}{A:aN}{n:Nat}{vs:cw}{w:ao}(h:Has (aP sz A n vs) w):vs.length=n*sz:=let ⟨_,aa,_⟩:=h;aa.1
theorem Has.yV{sz:Nat}{A:aN}{n:Nat}{vs:cw}{w:ao}(h:Has (aP sz A n vs) w)(aQ:n≠0):A=some ⟨ob A,ju A,none⟩:=let ⟨_,aa,_⟩:=h;(aa.2 aQ).1
theorem Has.dw{E:aO}{sz:Nat}{A:aN}{n c:Nat}{vs:cw}{w:ao}(h:Has (own E sz A n c vs) w):Has (aP sz A n vs) w:=let ⟨D,aa,ab⟩:=h;⟨D,Ug aa,ab⟩
theorem O6(f:Nat→aV)(n i:Nat)(v:aV):(((List.range n).map f).toArray).setIfInBounds i v=((List.range n).map (fun j=>if j=i then v else f j)).toArray:=by
 apply mh;simp only[r4];apply jB;intro j;rw[rG];simp only[jj,iK,GN];by_cases ax:j<n
 ·rw[Pl ax];by_cases kN:i=j
  ·subst kN;simp[ax]
  ·simp[kN,n4 kN]
 ·rw[iq (by simp;omega)];by_cases kN:i=j
  ·subst kN;simp[ax]
  ·simp[kN]
theorem Qr(n:Nat)(v:aV):(List.replicate n v).toArray=((List.range n).map (fun _=>v)).toArray:=by
 congr 1;apply jB;intro j;by_cases ax:j<n<;>simp[ax]
section
variable{P:a8}{w:ao}
theorem akf{T E sz by_:Nat}{z:aV}[h:dN P T E sz by_ z]{g o m c:Nat}{k:cg}{j:Int}(ax:0≤j∧j<m):
  (Instr.indexAt T (.slice (some ⟨g,o,none⟩) m c) (.int k j)).run P w=.ok (.pointer (some ⟨g,o+j.toNat*sz,none⟩)) w:=by
 obtain⟨i,hi,aq,_⟩:=h.rq;simp only[Instr.indexAt,Sem.run_bind,asIntOf,Sem.run_pure,Result.andThen_ok,run_underlying h.under,aD ax,sizeOf,mf hi,aq,lB]
theorem aus{T E sz by_:Nat}{z:aV}[h:dN P T E sz by_ z]{A:aN}{m c:Nat}{ty:aO}:(Builtin.len_ #[T] ty #[.slice A m c]).run P w=.ok (.int .i64 m) w:=by
 simp[Builtin.len_,run_underlying h.under,goInt]
theorem BQ{E:Nat}{i:TypeInfo}{z:aV}(hi:P.info? E=some i)(aL:i.zero=some z):(zeroValue E).run P w=.ok z w:=by
 simp only[zeroValue,Sem.run_bind,mf hi,Result.andThen_ok,aL,Sem.run_pure]
theorem ajb{T E by_:Nat}{z:aV}[h:dN P T E 1 by_ z](aL:pn z=true){k cb:cg}{n:Int}(aB:0≤n)(ad:(by_:Int)*n≤281474976710656)(aQ:n≤9223372036854775807):
  (Instr.makeSlice T (.int k n) (.int cb n)).run P w=.ok (.slice (some ⟨w.heap.size,0,none⟩) n.toNat n.toNat) (w.alloc (.cells (List.replicate n.toNat z).toArray E)):=by
 obtain⟨i,hi,aq,nB,vS⟩:=h.rq;have:=run_make (P:=P) w T E i z h.under hi vS k cb n n aB (MJ _) (by rw[nB];exact ad) aQ;rw[this,OW aL,aq,dJ];congr 3;rw[←toList_madeCells_one]
class r6 (P:a8) (T:aO) (z:outParam aV):Prop where
 zero:(P.info? T).map (·.zero)=some (some z)
class hk (P:a8) (T:aO) (pl:outParam (List (Nat×Nat))) (z:outParam (cw)):Prop where
 built:∀(parts:List (Nat×aV)) (cells:cJ),Instr.fill (pl.toArray[·]?) z.toArray parts=some cells→P.built T parts=some cells
theorem hk.mk'{T:aO}{cZ:Array Field}{pl:List (Nat×Nat)}{z:cw}(cE:P.underlying T=some (.struct cZ))(aL:(P.info? T).map (·.zero)=some (some (.agg z.toArray)))
  (aG:cZ.toList.mapM (fun f=>(P.info? f.type).map fun i=>(f.offset,i.size))=some pl):hk P T pl z:=by
 obtain⟨i,hi,aL⟩:=q5 aL;refine⟨fun parts cells h=>?_⟩;unfold Program.built;simp only[hi,cE,aL,aG];exact h
end
section
variable{P:a8}{ops:Array Oper}{S:ao→Prop}{K:Act→ao→Prop}{p:eR}{n:Nat}{l:List (Nat×aV)}{C:ao→Prop}{fl:Bool}{i:Nat}{ty dr dk tR:aO}{x y z:bf}
variable{F:Nat→Prop}{w₀:ao}{L dv:List bi}
theorem uD{d E sz by_:Nat}{zv:aV}{g o m c:Nat}{k:cg}{j:Int}(av:cG ops n l i=some (some d,.indexAddr ty x y,dk))[dN P ty E sz by_ zv](af:bk l x=some (.slice (some ⟨g,o,none⟩) m c))(aF:bk l y=some (.int k j))
  (ax:0≤j∧j<m) (h:U P ops S K p n ((d,(.pointer (some ⟨g,o+j.toNat*sz,none⟩)))::l) C):U P ops S K (.bB fl i p) n l C:=
 U.pure av (fun a w o he aa _=>by simp only[execOp,aa,he.bk af,he.bk aF,Sem.run_bind,akf ax,Result.andThen_ok,Sem.run_pure]) h
theorem eP{d:Nat}(q:Nat){E by_:Nat}{zv:aV}{g m c:Nat}{k:cg}{j:Int}(av:cG ops n l i=some (some d,.indexAddr ty x y,dk))[dN P ty E 1 by_ zv](af:bk l x=some (.slice (some ⟨g,0,none⟩) m c))(aF:bk l y=some (.int k j))
  (aM:j=(q:Nat)) (ax:q<m) (h:U P ops S K p n ((d,(.pointer (some ⟨g,q,none⟩)))::l) C):U P ops S K (.bB fl i p) n l C:=
 uD av af aF (by omega) (by subst aM;simpa using h)
theorem ahu{d:Nat}(q:Nat){E by_:Nat}{zv:aV}{A:aN}{m c:Nat}{k:cg}{j:Int}(av:cG ops n l i=some (some d,.indexAddr ty x y,dk))[dN P ty E 1 by_ zv](af:bk l x=some (.slice A m c))(aF:bk l y=some (.int k j))
  (aM:j=(q:Nat)) (ax:q<m) (bs:A=some ⟨ob A,ju A,none⟩) (h:U P ops S K p n ((d,(.pointer (some ⟨ob A,ju A+q,none⟩)))::l) C):U P ops S K (.bB fl i p) n l C:=by
 have e:=uD (P:=P) (fl:=fl) (g:=ob A) (o:=ju A) (m:=m) (c:=c) (k:=k) (j:=j) (S:=S) (K:=K) (p:=p) (C:=C) av (by rw[←bs];exact af) aF (by omega);subst aM;simp only[jK,dJ] at e;exact e h
theorem cf{d E sz by_:Nat}{zv:aV}{A:aN}{m c:Nat}{T:aO}(av:cG ops n l i=some (some d,.call ⟨.builtin .len, #[x], #[T]⟩,ty))[dN P T E sz by_ zv](af:bk l x=some (.slice A m c))
  (h:U P ops S K p n ((d,(.int .i64 m))::l) C):U P ops S K (.bB fl i p) n l C:=
 U.pure av (fun a w o he aa _=>by
  simp only[execOp,aa,resolve,Sem.run_bind,Sem.run_pure,Result.andThen_ok,invoke,builtin,oH,hW,lm,he.bk af,aus]) h
theorem yr{d:Nat}{op:Op}{v:Nat→aV}{T:aO}{cs:cJ}(av:cG ops n l i=some (some d,op,ty))
  (hn:∀a w (o:Oper),Env n l a→o.op=op→o.type=ty→(execOp a.eval o).run P w=.ok (.value (v w.heap.size)) (w.alloc (.cells cs T)))
  (be:∀w,au F w₀ L w→S w) (h:∀g,U P ops S K p n ((d,(v g))::l) (au F w₀ (aE g T cs::L))):U P ops S K (.bB false i p) n l (au F w₀ L):=
 U.act (v:=v) (ec:=fun g=>au F w₀ (aE g T cs::L)) av (fun a w o he ag aa ab=>⟨w.heap.size,_,.inl (hn a w o he aa ab),ag.alloc T cs⟩) (fun _ w hw=>be w ⟨hw.b6,hw.lt,hw.sep.tail⟩) h
theorem fx{d:Nat}{v:aV}(av:cG ops n l i=some (some d,.box dr x,ty))(af:bk l x=some v)(be:∀w,au F w₀ L w→S w)
  (h:∀g,U P ops S K p n ((d,(.pointer (some ⟨g,0,none⟩)))::l) (au F w₀ (aE g dr v.cells::L))):U P ops S K (.bB false i p) n l (au F w₀ L):=
 yr av (fun a w o he aa _=>by
  simp only[execOp,aa,he.bk af,Sem.run_bind,Instr.box,newVar,newRow,run_newObj,Result.andThen_ok,Sem.run_pure];rfl) be h
theorem gg{d:Nat}{zv:aV}(av:cG ops n l i=some (some d,.alloc dr,ty))[aoY:r6 P dr zv](be:∀w,au F w₀ L w→S w)
  (h:∀g,U P ops S K p n ((d,(.pointer (some ⟨g,0,none⟩)))::l) (au F w₀ (aE g dr zv.cells::L))):U P ops S K (.bB false i p) n l (au F w₀ L):=
 yr av (fun a w o he aa _=>by
  obtain⟨i,hi,aL⟩:=q5 aoY.zero;simp only[execOp,aa,Sem.run_bind,Instr.alloc,BQ hi aL,newVar,newRow,run_newObj,Result.andThen_ok,Sem.run_pure];rfl) be h
theorem lP{d:Nat}(q:Nat){E by_:Nat}{zv:aV}{k cb:cg}{m:Int}(av:cG ops n l i=some (some d,.makeSlice dr x y,ty))[dN P dr E 1 by_ zv](af:bk l x=some (.int k m))(aF:bk l y=some (.int cb m))
  (aM:m=(q:Nat)) (aL:pn zv=true) (hm:by_*q≤281474976710656∧q≤9223372036854775807) (be:∀w,au F w₀ L w→S w)
  (h:∀g,U P ops S K p n ((d,.slice (some ⟨g,0,none⟩) q q)::l) (au F w₀ (aE g E (List.replicate q zv).toArray::L))):U P ops S K (.bB false i p) n l (au F w₀ L):=
 yr (v:=fun g=>.slice (some ⟨g,0,none⟩) q q) av (fun a w o he aa _=>by
  subst aM;have ad:(by_:Int)*(q:Nat)≤281474976710656:=by rw[←zA];omega
  have:=ajb (P:=P) (w:=w) (T:=dr) (k:=k) (cb:=cb) aL (n:=(q:Nat)) (by omega) ad (by omega);rw[jK] at this;simp only[execOp,aa,he.bk af,he.bk aF,Sem.run_bind,this,Result.andThen_ok,Sem.run_pure]) be h
theorem gl{d:Nat}{pl:List (Nat×Nat)}{gY:cw}{ps:Array (Nat×bf)}{vs:cw}{cells:cJ}(av:cG ops n l i=some (some d,.build dr ps,ty))[aq:hk P dr pl gY](af:iY l (ps.toList.map (·.2))=some vs)
  (aI:Instr.fill (pl.toArray[·]?) gY.toArray ((ps.toList.map (·.1)).zip vs)=some cells) (h:U P ops S K p n ((d,(.agg cells))::l) C):U P ops S K (.bB fl i p) n l C:=
 U.pure av (fun a w o he aa _=>by
  have bu:(ps.map fun(q:Nat×bf)=>(q.1,a.eval q.2)).toList=(ps.toList.map (·.1)).zip vs:=by
   rw[←he.iY af,oV,o9];generalize ps.toList=fp;induction fp with
   |nil=>rfl
   |cons q r ih=>simp[ih]
  have bD:=run_build (P:=P) w dr (ps.map fun(q:Nat×bf)=>(q.1,a.eval q.2)) cells (by rw[bu];exact aq.built _ _ aI);simp only[execOp,aa,Sem.run_bind,bD,Result.andThen_ok,Sem.run_pure]) h
theorem VC{T E sz by_:Nat}{zv:aV}[h:dN P T E sz by_ zv]{len:Nat}{parts:Array (Nat×aV)}{cells:cJ}{w:ao}(hlen:len*sz≤16777216)(aB:len*sz≠0)(aI:Instr.fill (fun i=>some (i*sz,sz)) (madeCells zv.cells (len*sz)) parts.toList=some cells):
  (Instr.buildSlice T len parts).run P w=.ok (.slice (some ⟨w.heap.size,0,none⟩) len len) (w.alloc (.cells cells E)):=by
 obtain⟨i,hi,aq,_,aL⟩:=h.rq;have aa:¬(len*sz>2^24):=by omega
 have YC:=aI;unfold madeCells at YC;simp only[Instr.buildSlice,Sem.run_bind,run_underlying h.under,Result.andThen_ok,sizeOf,mf hi,aq,Sem.run_pure,az aa,az aB,BQ hi aL,YC,newRow,run_newObj];rfl
theorem ja{d E sz by_ len:Nat}{zv:aV}{ps:Array (Nat×bf)}{vs:cw}{cells:cJ}(av:cG ops n l i=some (some d,.buildSlice dr len ps,ty))[dN P dr E sz by_ zv](af:iY l (ps.toList.map (·.2))=some vs)
  (aI:Instr.fill (fun i=>some (i*sz,sz)) (madeCells zv.cells (len*sz)) ((ps.toList.map (·.1)).zip vs)=some cells) (ad:(Nat.ble (len*sz) 16777216&&Nat.blt 0 (len*sz))=true) (be:∀w,au F w₀ L w→S w)
  (h:∀g,U P ops S K p n ((d,.slice (some ⟨g,0,none⟩) len len)::l) (au F w₀ (aE g E cells::L))):U P ops S K (.bB false i p) n l (au F w₀ L):=
 yr (v:=fun g=>.slice (some ⟨g,0,none⟩) len len) av (fun a w o he aa _=>by
  have bu:(ps.map fun(q:Nat×bf)=>(q.1,a.eval q.2)).toList=(ps.toList.map (·.1)).zip vs:=by
   rw[←he.iY af,oV,o9];generalize ps.toList=fp;induction fp with
   |nil=>rfl
   |cons q r ih=>simp[ih]
  rw[b7] at ad;have sO:0<len*sz:=ho ad.2;have bD:=VC (P:=P) (w:=w) (T:=dr) (parts:=ps.map fun(q:Nat×bf)=>(q.1,a.eval q.2)) (cells:=cells) (len:=len) (ho ad.1) (by omega) (by rw[bu];exact aI);simp only[execOp,aa,Sem.run_bind,bD,Result.andThen_ok,Sem.run_pure]) be h
theorem eh(q:Nat){g o T:Nat}{cs:cJ}{v:aV}(hi:L[q]?=some (aE g T cs))(av:cG ops n l i=some (none,.store ty x y,dk))[One P ty](af:bk l x=some (.pointer (some ⟨g,o,none⟩)))(aF:bk l y=some v)(br:pn v=true)
  (ca:o<cs.size) (be:∀w,au F w₀ (L.set q (aE g T (cs.setIfInBounds o v))) w→S w) (h:U P ops S K p n (l) (au F w₀ (L.set q (aE g T (cs.setIfInBounds o v))))):U P ops S K (.bB false i p) n l (au F w₀ L):=
 KD av af aF br (fun _ hw=>⟨⟨_,hw.cP hi (Array.getElem?_eq_getElem ca)⟩,hw.acY hi o,hw.Wk hi o v⟩) be h
theorem cm{d:Nat}(q:Nat){g o T:Nat}{cs:cJ}{v:aV}(hi:L[q]?=some (aE g T cs))(av:cG ops n l i=some (some d,.load ty x,dk))[One P ty](af:bk l x=some (.pointer (some ⟨g,o,none⟩)))(br:cs[o]?=some v)
  (h:U P ops S K p n ((d,v)::l) (au F w₀ L)):U P ops S K (.bB false i p) n l (au F w₀ L):=
 c5 av af (fun _ hw=>hw.cP hi br) h
end
class wV (P:a8) (T:aO):Prop where
 under:P.underlying T=some (.interface (P.methodsAt T))
class Bm (P:a8) (T:aO):Prop where
 under:∃e,P.underlying T=some (.pointer e)
class FE (P:a8) (T:aO):Prop where
 under:∃o2 j i,P.underlying T=some (.pointer o2)∧P.info? o2=some j∧P.info? T=some i∧i.comparable=true
theorem FE.mk'{P:a8}{T o2:aO}(cE:P.underlying T=some (.pointer o2))(ax:(P.info? o2).isSome=true)(hi:(P.info? T).map (·.comparable)=some true):FE P T:=by
 obtain⟨i,aa,ab⟩:=q5 hi;obtain⟨j,an⟩:=Ji.1 ax;exact⟨o2,j,i,cE,an,aa,ab⟩
class av0 (P:a8) (T:aO):Prop where
 under:∃d,P.underlying T=some d∧(match d with|.interface _=>true|_=>false)=false
class so (P:a8) (T:aO) (E:outParam aO) (m sz:outParam Nat) (z:outParam (cw)):Prop where
 under:P.underlying T=some (.array m E)
 elem:∃i,P.info? E=some i∧i.size=sz
 built:∀(parts:List (Nat×aV)) (cells:cJ),Instr.fill (fun i=>some (i*sz,sz)) z.toArray parts=some cells→P.built T parts=some cells
 size:∃i,P.info? T=some i∧i.size=m*sz∧i.zero=some (.agg z.toArray)
theorem so.mk'{P:a8}{T E m sz:Nat}{z:cw}(cE:P.underlying T=some (.array m E))(c4:(P.info? E).map (·.size)=some sz)(aL:(P.info? T).map (fun i=>(i.size,i.zero))=some (m*sz,some (.agg z.toArray))):so P T E m sz z:=by
 obtain⟨i,hi,aq⟩:=q5 c4;obtain⟨j,ax,kW⟩:=q5 aL;simp only[fs] at kW;refine⟨cE,⟨i,hi,aq⟩,fun parts cells h=>?_,⟨j,ax,kW.1,kW.2⟩⟩;unfold Program.built;simp only[ax,cE,kW.2,hi,aq];exact h
section
variable{P:a8}{w:ao}
theorem X0(op:BinOp)(T:aO)(x:bf):(eqGuard op T x (.const .nilIface) .nilIface .nilIface).run P w=.ok () w:=by
 unfold eqGuard;cases op<;>first|rfl|(cases x<;>rfl)
theorem P5(op:BinOp)(T u:aO)(x y:bf)(v b:aV):(eqGuard op T x y (.iface u v) b).run P w=.ok () w:=by
 unfold eqGuard;cases op<;>first|rfl|(cases b<;>rfl)
theorem agU{T E m sz:Nat}{z:cw}[h:so P T E m sz z]{g o:Nat}{k:cg}{j:Int}(ax:0≤j∧j<m):
  (Instr.indexAt T (.pointer (some ⟨g,o,none⟩)) (.int k j)).run P w=.ok (.pointer (some ⟨g,o+j.toNat*sz,none⟩)) w:=by
 obtain⟨i,hi,aq⟩:=h.elem;simp only[Instr.indexAt,Sem.run_bind,asIntOf,Sem.run_pure,Result.andThen_ok,run_underlying h.under,Instr.sureAddr,aD ax,sizeOf,mf hi,aq,lB]
theorem atN{T:aO}{g YF:Nat}{cs vs:cJ}{i:TypeInfo}(hi:P.info? T=some i)(aq:i.size=vs.size)(hlen:vs.size=cs.size)(aa:∀v∈vs.toList,v.oneCell'=true)
  (c6:w.heap[g]?=some (.cells cs YF (0,0))):(Instr.storeAt T (.pointer (some ⟨g,0,none⟩)) (.agg vs)).run P w=.ok () (w.setRow g vs):=by
 have ab:=run_storeCells_at (P:=P) g 0 YF vs.toList 0 cs w c6 (by simp;omega) aa;have e:(cs.toList.take (0+0)++vs.toList++cs.toList.drop (0+0+vs.toList.length)).toArray=vs:=by
  simp[List.drop_eq_nil_of_le,hlen]
 rw[e] at ab;simp only[Instr.storeAt,Instr.sureAddr,Sem.run_bind,Sem.run_pure,Result.andThen_ok,storeVar,Value.cells,sizeOf,mf hi,aq];simp[ab]
end
section
variable{P:a8}{ops:Array Oper}{S:ao→Prop}{K:Act→ao→Prop}{p:eR}{n:Nat}{l:List (Nat×aV)}{C:ao→Prop}{fl:Bool}{i:Nat}{ty dr dk tR:aO}{x y z:bf}
variable{F:Nat→Prop}{w₀:ao}{L dv:List bi}
theorem au.anH{q g T:Nat}{cs:cJ}(hi:L[q]?=some (aE g T cs))(vs:cJ){w:ao}(h:au F w₀ L w):au F w₀ (L.set q (aE g T vs)) (w.setRow g vs):=by
 obtain⟨D,⟨aa,ab⟩,an,aK⟩:=h.rO hi;refine aK _ _ D ⟨I,I,I,by simp[World.setRow],fun k ah=>?_⟩ ⟨aa,?_⟩ (fun k ah=>⟨.inl ah,by simp[World.setRow];exact an k ah⟩)
 ·have:k≠g:=fun e=>ah.2 ((aa k).2 e);simp[World.setRow,vU,n4 this]
 ·simp[World.setRow,vU,ab]
theorem fE(q:Nat){g T:Nat}{cs vs:cJ}(hi:L[q]?=some (aE g T cs))(av:cG ops n l i=some (none,.store ty x y,dk))(aL:(P.info? ty).map (·.size)=some vs.size)(af:bk l x=some (.pointer (some ⟨g,0,none⟩)))(aF:bk l y=some (.agg vs))
  (hlen:vs.size=cs.size) (br:vs.toList.all (·.oneCell')=true) (be:∀w,au F w₀ (L.set q (aE g T vs)) w→S w) (h:U P ops S K p n l (au F w₀ (L.set q (aE g T vs)))):U P ops S K (.bB false i p) n l (au F w₀ L):=by
 obtain⟨it,Ad,fU⟩:=q5 aL;refine U.act (d:=none) (X:=Unit) (v:=fun _=>undef) (ec:=fun _=>au F w₀ (L.set q (aE g T vs))) av (fun a w o he hw aa _=>?_) (fun _=>be) (fun _=>h);obtain⟨D,⟨_,ab⟩,_⟩:=hw.sep.at_ hi;exact⟨(),w.setRow g vs,.inr ⟨by simp only[execOp,aa,he.bk af,he.bk aF,Sem.run_bind,atN Ad fU hlen (lf.1 br) ab,Result.andThen_ok,Sem.run_pure],I⟩,hw.anH hi vs⟩
theorem Ak{d:Nat}(av:cG ops n l i=some (some d,.binOp .eql ty x (.const .nilIface) dr,dk))[dj:wV P ty](af:bk l x=some .nilIface)(h:U P ops S K p n ((d,.bool true)::l) C):U P ops S K (.bB fl i p) n l C:=
 U.pure av (fun a w o he aa _=>by
  have e:a.eval (.const .nilIface)=.nilIface:=rfl;simp only[execOp,aa,he.bk af,e,Sem.run_bind,X0,run_eql_nil_nil _ _ dj.under,Result.andThen_ok,Sem.run_pure]) h
theorem jl{d:Nat}(av:cG ops n l i=some (some d,.binOp .neq ty x (.const .nilIface) dr,dk))[dj:wV P ty](af:bk l x=some .nilIface)(h:U P ops S K p n ((d,.bool false)::l) C):U P ops S K (.bB fl i p) n l C:=
 U.pure av (fun a w o he aa _=>by
  have e:a.eval (.const .nilIface)=.nilIface:=rfl;simp only[execOp,aa,he.bk af,e,Sem.run_bind,X0,run_neq_nil_nil _ _ dj.under,Result.andThen_ok,Sem.run_pure]) h
theorem arf{d:Nat}{u:aO}{v:aV}(av:cG ops n l i=some (some d,.binOp .eql ty x (.const .nilIface) dr,dk))[dj:wV P ty](af:bk l x=some (.iface u v))(h:U P ops S K p n ((d,.bool false)::l) C):U P ops S K (.bB fl i p) n l C:=
 U.pure av (fun a w o he aa _=>by
  have e:a.eval (.const .nilIface)=.nilIface:=rfl;simp only[execOp,aa,he.bk af,e,Sem.run_bind,P5,run_eql_held_nil _ _ _ _ dj.under,Result.andThen_ok,Sem.run_pure]) h
theorem B2{d:Nat}{u:aO}{v:aV}(av:cG ops n l i=some (some d,.binOp .neq ty x (.const .nilIface) dr,dk))[dj:wV P ty](af:bk l x=some (.iface u v))(h:U P ops S K p n ((d,.bool true)::l) C):U P ops S K (.bB fl i p) n l C:=
 U.pure av (fun a w o he aa _=>by
  have e:a.eval (.const .nilIface)=.nilIface:=rfl;simp only[execOp,aa,he.bk af,e,Sem.run_bind,P5,run_neq_held_nil _ _ _ _ dj.under,Result.andThen_ok,Sem.run_pure]) h
theorem LW(op:BinOp)(T:aO)(x y:bf)(a:aN)(b:aV){w:ao}:(eqGuard op T x y (.pointer a) b).run P w=.ok () w:=by
 unfold eqGuard;cases op<;>first|rfl|(cases b<;>rfl)
theorem I5{d:Nat}{a0:Addr}(av:cG ops n l i=some (some d,.binOp .eql ty x (.const (.pointer none)) dr,dk))[gp:Bm P ty](af:bk l x=some (.pointer (some a0)))(h:U P ops S K p n ((d,.bool false)::l) C):U P ops S K (.bB fl i p) n l C:=
 U.pure av (fun a w o he aa _=>by
  obtain⟨e,hu⟩:=gp.under;have bu:a.eval (.const (.pointer none))=.pointer none:=rfl;have bD:(binOp .eql ty (.pointer (some a0)) (.pointer none)).run P w=.ok (.bool false) w:=by
   simp only[binOp,Op.equal,Op.maxDepth,Sem.run_bind];rw[Op.equalIn];simp[run_underlying hu]
  simp only[execOp,aa,he.bk af,bu,Sem.run_bind,LW,bD,Result.andThen_ok,Sem.run_pure]) h
theorem aq8{d:Nat}{a0:Addr}(av:cG ops n l i=some (some d,.binOp .neq ty x (.const (.pointer none)) dr,dk))[gp:Bm P ty](af:bk l x=some (.pointer (some a0)))(h:U P ops S K p n ((d,.bool true)::l) C):U P ops S K (.bB fl i p) n l C:=
 U.pure av (fun a w o he aa _=>by
  obtain⟨e,hu⟩:=gp.under;have bu:a.eval (.const (.pointer none))=.pointer none:=rfl;have bD:(binOp .neq ty (.pointer (some a0)) (.pointer none)).run P w=.ok (.bool true) w:=by
   simp only[binOp,Op.equal,Op.maxDepth,Sem.run_bind];rw[Op.equalIn];simp[run_underlying hu]
  simp only[execOp,aa,he.bk af,bu,Sem.run_bind,LW,bD,Result.andThen_ok,Sem.run_pure]) h
theorem ane{d:Nat}{tp:aO}{a0:Addr}(av:cG ops n l i=some (some d,.binOp .eql ty x y dr,dk))[dj:wV P ty][gp:FE P tp](af:bk l x=some (.iface tp (.pointer (some a0))))(aF:bk l y=some (.iface tp (.pointer (some a0))))(h:U P ops S K p n ((d,.bool true)::l) C):U P ops S K (.bB fl i p) n l C:=
 U.pure av (fun a w o he aa _=>by
  obtain⟨o2,j,i,ab,an,aK,bo⟩:=gp.under;have bD:=run_eql_iface_ptr_same (P:=P) (w:=w) (ti:=ty) (tp:=tp) a0 dj.under ab aK bo an;simp only[execOp,aa,he.bk af,he.bk aF,Sem.run_bind,P5,bD,Result.andThen_ok,Sem.run_pure]) h
theorem n0{d:Nat}(q:Nat){E m sz:Nat}{gY:cw}{g o:Nat}{k:cg}{j:Int}(av:cG ops n l i=some (some d,.indexAddr ty x y,dk))[so P ty E m sz gY](af:bk l x=some (.pointer (some ⟨g,o,none⟩)))(aF:bk l y=some (.int k j))
  (aM:j=(q:Nat)) (ax:q<m) (h:U P ops S K p n ((d,.pointer (some ⟨g,o+q*sz,none⟩))::l) C):U P ops S K (.bB fl i p) n l C:=
 U.pure av (fun a w kO he aa _=>by
  subst aM;have:=agU (P:=P) (w:=w) (T:=ty) (g:=g) (o:=o) (k:=k) (j:=(q:Nat)) (by omega);simp only[execOp,aa,he.bk af,he.bk aF,Sem.run_bind,this,jK,Result.andThen_ok,Sem.run_pure]) h
theorem A5{d E m sz:Nat}{gY:cw}{ps:Array (Nat×bf)}{vs:cw}{cells:cJ}(av:cG ops n l i=some (some d,.build dr ps,ty))[aq:so P dr E m sz gY](af:iY l (ps.toList.map (·.2))=some vs)
  (aI:Instr.fill (fun i=>some (i*sz,sz)) gY.toArray ((ps.toList.map (·.1)).zip vs)=some cells) (h:U P ops S K p n ((d,.agg cells)::l) C):U P ops S K (.bB fl i p) n l C:=
 U.pure av (fun a w o he aa _=>by
  have bu:(ps.map fun(q:Nat×bf)=>(q.1,a.eval q.2)).toList=(ps.toList.map (·.1)).zip vs:=by
   rw[←he.iY af,oV,o9];generalize ps.toList=fp;induction fp with
   |nil=>rfl
   |cons q r ih=>simp[ih]
  have bD:=run_build (P:=P) w dr (ps.map fun(q:Nat×bf)=>(q.1,a.eval q.2)) cells (by rw[bu];exact aq.built _ _ aI);simp only[execOp,aa,Sem.run_bind,bD,Result.andThen_ok,Sem.run_pure]) h
end
end Go.a6
end
section
namespace Go.Proofs.YtcgjepodnfjggaaGreatDoor
open Go.a6
set_option maxRecDepth 100000
theorem mixed:Tryz.prog.follows .mixedOrders=true:=by kernel_rfl
instance:One Tryz.prog 3:=One.mk' Tryz.underlying3 rfl (by kernel_rfl)
instance:wv Tryz.prog 3 .i64:=⟨Tryz.underlying3⟩
instance:One Tryz.prog 4:=One.mk' Tryz.underlying4 rfl (by kernel_rfl)
instance:One Tryz.prog 5:=One.mk' Tryz.underlying5 rfl (by kernel_rfl)
instance:wv Tryz.prog 5 .u8:=⟨Tryz.underlying5⟩
instance:r6 Tryz.prog 23 (.agg #[.int .i64 0,.int .i64 0,.int .i64 0,.int .i64 0,.int .i64 0,.int .i64 0]):=⟨by kernel_rfl⟩
instance:bX Tryz.prog 23 0 0:=bX.mk' Tryz.underlying23 rfl rfl (by kernel_rfl)
instance:bX Tryz.prog 23 1 1:=bX.mk' Tryz.underlying23 rfl rfl (by kernel_rfl)
instance:bX Tryz.prog 23 2 2:=bX.mk' Tryz.underlying23 rfl rfl (by kernel_rfl)
instance:bX Tryz.prog 23 3 3:=bX.mk' Tryz.underlying23 rfl rfl (by kernel_rfl)
instance:bX Tryz.prog 23 4 4:=bX.mk' Tryz.underlying23 rfl rfl (by kernel_rfl)
instance:bX Tryz.prog 23 5 5:=bX.mk' Tryz.underlying23 rfl rfl (by kernel_rfl)
instance:hk Tryz.prog 23 [(0,1),(1,1),(2,1),(3,1),(4,1),(5,1)] [.int .i64 0,.int .i64 0,.int .i64 0,.int .i64 0,.int .i64 0,.int .i64 0]:=hk.mk' Tryz.underlying23 (by kernel_rfl) (by kernel_rfl)
instance:One Tryz.prog 24:=One.mk' Tryz.underlying24 rfl (by kernel_rfl)
instance:dN Tryz.prog 24 5 1 1 (.int .u8 0):=dN.mk' Tryz.underlying24 (by kernel_rfl)
instance:r6 Tryz.prog 25 (.slice none 0 0):=⟨by kernel_rfl⟩
instance:One Tryz.prog 25:=One.mk' Tryz.underlying25 rfl (by kernel_rfl)
instance:dN Tryz.prog 25 3 1 8 (.int .i64 0):=dN.mk' Tryz.underlying25 (by kernel_rfl)
instance:r6 Tryz.prog 28 (.agg #[.int .i64 0,.int .i64 0,.int .i64 0,.int .i64 0,.int .i64 0,.int .i64 0,.int .i64 0,.int .i64 0,.int .i64 0]):=⟨by kernel_rfl⟩
instance:bX Tryz.prog 28 2 2:=bX.mk' Tryz.underlying28 rfl rfl (by kernel_rfl)
instance:bX Tryz.prog 28 3 3:=bX.mk' Tryz.underlying28 rfl rfl (by kernel_rfl)
instance:bX Tryz.prog 28 4 4:=bX.mk' Tryz.underlying28 rfl rfl (by kernel_rfl)
instance:hk Tryz.prog 28 [(0,1),(1,1),(2,1),(3,1),(4,1),(5,1),(6,1),(7,1),(8,1)] [.int .i64 0,.int .i64 0,.int .i64 0,.int .i64 0,.int .i64 0,.int .i64 0,.int .i64 0,.int .i64 0,.int .i64 0]:=hk.mk' Tryz.underlying28 (by kernel_rfl) (by kernel_rfl)
instance:Bm Tryz.prog 30:=⟨_,Tryz.underlying30⟩
instance:wV Tryz.prog 32:=⟨by kernel_rfl⟩
instance:One Tryz.prog 32:=One.mk' Tryz.underlying32 rfl (by kernel_rfl)
instance:bX Tryz.prog 38 0 0:=bX.mk' Tryz.underlying38 rfl rfl (by kernel_rfl)
instance:bX Tryz.prog 38 1 1:=bX.mk' Tryz.underlying38 rfl rfl (by kernel_rfl)
instance:hk Tryz.prog 38 [(0,1),(1,1)] [.int .i64 0,.int .i64 0]:=hk.mk' Tryz.underlying38 (by kernel_rfl) (by kernel_rfl)
instance:Bm Tryz.prog 39:=⟨_,Tryz.underlying39⟩
instance:r6 Tryz.prog 43 (.agg #[.int .i64 0,.int .i64 0,.int .i64 0,.int .i64 0,.slice none 0 0]):=⟨by kernel_rfl⟩
instance:bX Tryz.prog 43 0 0:=bX.mk' Tryz.underlying43 rfl rfl (by kernel_rfl)
instance:bX Tryz.prog 43 1 1:=bX.mk' Tryz.underlying43 rfl rfl (by kernel_rfl)
instance:bX Tryz.prog 43 2 2:=bX.mk' Tryz.underlying43 rfl rfl (by kernel_rfl)
instance:bX Tryz.prog 43 3 3:=bX.mk' Tryz.underlying43 rfl rfl (by kernel_rfl)
instance:bX Tryz.prog 43 4 4:=bX.mk' Tryz.underlying43 rfl rfl (by kernel_rfl)
instance:hk Tryz.prog 43 [(0,1),(1,1),(2,1),(3,1),(4,1)] [.int .i64 0,.int .i64 0,.int .i64 0,.int .i64 0,.slice none 0 0]:=hk.mk' Tryz.underlying43 (by kernel_rfl) (by kernel_rfl)
instance:One Tryz.prog 44:=One.mk' Tryz.underlying44 rfl (by kernel_rfl)
instance:dN Tryz.prog 44 43 5 56 (.agg #[.int .i64 0,.int .i64 0,.int .i64 0,.int .i64 0,.slice none 0 0]):=dN.mk' Tryz.underlying44 (by kernel_rfl)
instance:r6 Tryz.prog 48 (.agg #[.int .i64 0,.int .i64 0,.int .i64 0,.int .i64 0,.int .i64 0,.int .i64 0,.int .i64 0,.slice none 0 0,.int .i64 0]):=⟨by kernel_rfl⟩
instance:bX Tryz.prog 48 0 0:=bX.mk' Tryz.underlying48 rfl rfl (by kernel_rfl)
instance:bX Tryz.prog 48 1 1:=bX.mk' Tryz.underlying48 rfl rfl (by kernel_rfl)
instance:bX Tryz.prog 48 2 7:=bX.mk' Tryz.underlying48 rfl rfl (by kernel_rfl)
instance:bX Tryz.prog 48 3 8:=bX.mk' Tryz.underlying48 rfl rfl (by kernel_rfl)
instance:hk Tryz.prog 48 [(0,1),(1,6),(7,1),(8,1)] [.int .i64 0,.int .i64 0,.int .i64 0,.int .i64 0,.int .i64 0,.int .i64 0,.int .i64 0,.slice none 0 0,.int .i64 0]:=hk.mk' Tryz.underlying48 (by kernel_rfl) (by kernel_rfl)
instance:dN Tryz.prog 72 28 9 72 (.agg #[.int .i64 0,.int .i64 0,.int .i64 0,.int .i64 0,.int .i64 0,.int .i64 0,.int .i64 0,.int .i64 0,.int .i64 0]):=dN.mk' Tryz.underlying72 (by kernel_rfl)
instance:One Tryz.prog 74:=One.mk' Tryz.underlying74 rfl (by kernel_rfl)
instance:One Tryz.prog 77:=One.mk' Tryz.underlying77 rfl (by kernel_rfl)
instance:bX Tryz.prog 80 0 0:=bX.mk' Tryz.underlying80 rfl rfl (by kernel_rfl)
instance:bX Tryz.prog 80 1 1:=bX.mk' Tryz.underlying80 rfl rfl (by kernel_rfl)
instance:bX Tryz.prog 80 2 2:=bX.mk' Tryz.underlying80 rfl rfl (by kernel_rfl)
instance:hk Tryz.prog 80 [(0,1),(1,1),(2,1)] [.int .i64 0,.int .i64 0,.pointer none]:=hk.mk' Tryz.underlying80 (by kernel_rfl) (by kernel_rfl)
instance:r6 Tryz.prog 87 (.agg #[.int .i64 0,.int .i64 0]):=⟨by kernel_rfl⟩
instance:so Tryz.prog 87 3 2 1 [.int .i64 0,.int .i64 0]:=so.mk' Tryz.underlying87 (by kernel_rfl) (by kernel_rfl)
instance:One Tryz.prog 89:=One.mk' Tryz.underlying89 rfl (by kernel_rfl)
instance:dN Tryz.prog 89 95 3 40 (.agg #[.slice none 0 0,.int .i64 0,.bool false]):=dN.mk' Tryz.underlying89 (by kernel_rfl)
instance:One Tryz.prog 90:=One.mk' Tryz.underlying90 rfl (by kernel_rfl)
instance:bX Tryz.prog 92 0 0:=bX.mk' Tryz.underlying92 rfl rfl (by kernel_rfl)
instance:bX Tryz.prog 92 1 1:=bX.mk' Tryz.underlying92 rfl rfl (by kernel_rfl)
instance:bX Tryz.prog 92 2 2:=bX.mk' Tryz.underlying92 rfl rfl (by kernel_rfl)
instance:bX Tryz.prog 92 3 3:=bX.mk' Tryz.underlying92 rfl rfl (by kernel_rfl)
instance:bX Tryz.prog 92 4 4:=bX.mk' Tryz.underlying92 rfl rfl (by kernel_rfl)
instance:bX Tryz.prog 92 5 5:=bX.mk' Tryz.underlying92 rfl rfl (by kernel_rfl)
instance:bX Tryz.prog 92 6 6:=bX.mk' Tryz.underlying92 rfl rfl (by kernel_rfl)
instance:bX Tryz.prog 92 7 7:=bX.mk' Tryz.underlying92 rfl rfl (by kernel_rfl)
instance:bX Tryz.prog 92 8 8:=bX.mk' Tryz.underlying92 rfl rfl (by kernel_rfl)
instance:hk Tryz.prog 92 [(0,1),(1,1),(2,1),(3,1),(4,1),(5,1),(6,1),(7,1),(8,1)] [.int .i64 0,.int .i64 0,.int .i64 0,.slice none 0 0,.slice none 0 0,.int .i64 0,.int .i64 0,.bool false,.nilFunc]:=hk.mk' Tryz.underlying92 (by kernel_rfl) (by kernel_rfl)
instance:One Tryz.prog 93:=One.mk' Tryz.underlying93 rfl (by kernel_rfl)
instance:dN Tryz.prog 93 98 3 56 (.agg #[.slice none 0 0,.slice none 0 0,.bool false]):=dN.mk' Tryz.underlying93 (by kernel_rfl)
instance:bX Tryz.prog 95 0 0:=bX.mk' Tryz.underlying95 rfl rfl (by kernel_rfl)
instance:bX Tryz.prog 95 2 2:=bX.mk' Tryz.underlying95 rfl rfl (by kernel_rfl)
instance:r6 Tryz.prog 98 (.agg #[.slice none 0 0,.slice none 0 0,.bool false]):=⟨by kernel_rfl⟩
instance:bX Tryz.prog 98 0 0:=bX.mk' Tryz.underlying98 rfl rfl (by kernel_rfl)
instance:bX Tryz.prog 98 1 1:=bX.mk' Tryz.underlying98 rfl rfl (by kernel_rfl)
instance:bX Tryz.prog 98 2 2:=bX.mk' Tryz.underlying98 rfl rfl (by kernel_rfl)
instance:Bm Tryz.prog 101:=⟨_,Tryz.underlying101⟩
instance:One Tryz.prog 109:=One.mk' Tryz.underlying109 rfl (by kernel_rfl)
instance:dN Tryz.prog 110 109 1 8 (.nilFunc):=dN.mk' Tryz.underlying110 (by kernel_rfl)
instance:bX Tryz.prog 115 0 0:=bX.mk' Tryz.underlying115 rfl rfl (by kernel_rfl)
instance:bX Tryz.prog 115 1 1:=bX.mk' Tryz.underlying115 rfl rfl (by kernel_rfl)
instance:bX Tryz.prog 115 2 2:=bX.mk' Tryz.underlying115 rfl rfl (by kernel_rfl)
instance:bX Tryz.prog 115 4 4:=bX.mk' Tryz.underlying115 rfl rfl (by kernel_rfl)
instance:One Tryz.prog 136:=One.mk' Tryz.underlying136 rfl (by kernel_rfl)
instance:One Tryz.prog 137:=One.mk' Tryz.underlying137 rfl (by kernel_rfl)
instance:dN Tryz.prog 137 5 1 1 (.int .u8 0):=dN.mk' Tryz.underlying137 (by kernel_rfl)
instance:bX Tryz.prog 140 0 0:=bX.mk' Tryz.underlying140 rfl rfl (by kernel_rfl)
instance:bX Tryz.prog 140 1 1:=bX.mk' Tryz.underlying140 rfl rfl (by kernel_rfl)
instance:bX Tryz.prog 140 2 2:=bX.mk' Tryz.underlying140 rfl rfl (by kernel_rfl)
instance:bX Tryz.prog 140 3 3:=bX.mk' Tryz.underlying140 rfl rfl (by kernel_rfl)
instance:bX Tryz.prog 140 4 4:=bX.mk' Tryz.underlying140 rfl rfl (by kernel_rfl)
instance:bX Tryz.prog 140 5 5:=bX.mk' Tryz.underlying140 rfl rfl (by kernel_rfl)
instance:bX Tryz.prog 140 6 6:=bX.mk' Tryz.underlying140 rfl rfl (by kernel_rfl)
instance:bX Tryz.prog 147 0 0:=bX.mk' Tryz.underlying147 rfl rfl (by kernel_rfl)
instance:hk Tryz.prog 147 [(0,1)] [.pointer none]:=hk.mk' Tryz.underlying147 (by kernel_rfl) (by kernel_rfl)
instance:bX Tryz.prog 151 0 0:=bX.mk' Tryz.underlying151 rfl rfl (by kernel_rfl)
instance:hk Tryz.prog 151 [(0,6)] [.int .i64 0,.int .i64 0,.int .i64 0,.int .i64 0,.int .i64 0,.int .i64 0]:=hk.mk' Tryz.underlying151 (by kernel_rfl) (by kernel_rfl)
instance:dN Tryz.prog 152 154 1 8 (.nilFunc):=dN.mk' Tryz.underlying152 (by kernel_rfl)
instance:One Tryz.prog 154:=One.mk' Tryz.underlying154 rfl (by kernel_rfl)
instance:bX Tryz.prog 190 0 0:=bX.mk' Tryz.underlying190 rfl rfl (by kernel_rfl)
instance:bX Tryz.prog 190 1 1:=bX.mk' Tryz.underlying190 rfl rfl (by kernel_rfl)
instance:bX Tryz.prog 190 2 2:=bX.mk' Tryz.underlying190 rfl rfl (by kernel_rfl)
instance:bX Tryz.prog 190 3 3:=bX.mk' Tryz.underlying190 rfl rfl (by kernel_rfl)
instance:hk Tryz.prog 190 [(0,1),(1,1),(2,1),(3,1)] [.int .i64 0,.int .i64 0,.slice none 0 0,.slice none 0 0]:=hk.mk' Tryz.underlying190 (by kernel_rfl) (by kernel_rfl)
instance:dN Tryz.prog 191 137 1 24 (.slice none 0 0):=dN.mk' Tryz.underlying191 (by kernel_rfl)
instance:wv Tryz.prog 196 .u64:=⟨Tryz.underlying196⟩
instance:One Tryz.prog 201:=One.mk' Tryz.underlying201 rfl (by kernel_rfl)
instance:wv Tryz.prog 201 .u16:=⟨Tryz.underlying201⟩
instance:bX Tryz.prog 203 0 0:=bX.mk' Tryz.underlying203 rfl rfl (by kernel_rfl)
instance:hk Tryz.prog 203 [(0,1)] [.int .u16 0]:=hk.mk' Tryz.underlying203 (by kernel_rfl) (by kernel_rfl)
instance:bX Tryz.prog 212 0 0:=bX.mk' Tryz.underlying212 rfl rfl (by kernel_rfl)
instance:bX Tryz.prog 212 1 1:=bX.mk' Tryz.underlying212 rfl rfl (by kernel_rfl)
instance:bX Tryz.prog 212 2 2:=bX.mk' Tryz.underlying212 rfl rfl (by kernel_rfl)
instance:bX Tryz.prog 212 3 3:=bX.mk' Tryz.underlying212 rfl rfl (by kernel_rfl)
instance:bX Tryz.prog 212 4 4:=bX.mk' Tryz.underlying212 rfl rfl (by kernel_rfl)
instance:bX Tryz.prog 212 5 5:=bX.mk' Tryz.underlying212 rfl rfl (by kernel_rfl)
instance:bX Tryz.prog 212 6 6:=bX.mk' Tryz.underlying212 rfl rfl (by kernel_rfl)
instance:hk Tryz.prog 212 [(0,1),(1,1),(2,1),(3,1),(4,1),(5,1),(6,1)] [.slice none 0 0,.slice none 0 0,.slice none 0 0,.slice none 0 0,.int .i64 0,.slice none 0 0,.bool false]:=hk.mk' Tryz.underlying212 (by kernel_rfl) (by kernel_rfl)
instance:One Tryz.prog 213:=One.mk' Tryz.underlying213 rfl (by kernel_rfl)
instance:dN Tryz.prog 214 213 1 8 (.nilFunc):=dN.mk' Tryz.underlying214 (by kernel_rfl)
instance:r6 Tryz.prog 240 (.agg #[.int .i64 0,.int .i64 0,.int .i64 0,.int .i64 0,.int .i64 0,.int .i64 0,.int .i64 0,.int .i64 0,.int .i64 0,.int .i64 0,.int .i64 0,.int .i64 0]):=⟨by kernel_rfl⟩
instance:so Tryz.prog 240 3 12 1 [.int .i64 0,.int .i64 0,.int .i64 0,.int .i64 0,.int .i64 0,.int .i64 0,.int .i64 0,.int .i64 0,.int .i64 0,.int .i64 0,.int .i64 0,.int .i64 0]:=so.mk' Tryz.underlying240 (by kernel_rfl) (by kernel_rfl)
instance:dN Tryz.prog 241 25 1 24 (.slice none 0 0):=dN.mk' Tryz.underlying241 (by kernel_rfl)
instance:r6 Tryz.prog 244 (.pointer none):=⟨by kernel_rfl⟩
instance:One Tryz.prog 244:=One.mk' Tryz.underlying244 rfl (by kernel_rfl)
instance:One Tryz.prog 249:=One.mk' Tryz.underlying249 rfl (by kernel_rfl)
instance:wv Tryz.prog 249 .u32:=⟨Tryz.underlying249⟩
instance:bX Tryz.prog 251 0 0:=bX.mk' Tryz.underlying251 rfl rfl (by kernel_rfl)
instance:hk Tryz.prog 251 [(0,1)] [.int .u32 0]:=hk.mk' Tryz.underlying251 (by kernel_rfl) (by kernel_rfl)
instance:wv Tryz.prog 256 .u64:=⟨Tryz.underlying256⟩
instance:dN Tryz.prog 267 4 1 1 (.bool false):=dN.mk' Tryz.underlying267 (by kernel_rfl)
instance:bX Tryz.prog 330 0 0:=bX.mk' Tryz.underlying330 rfl rfl (by kernel_rfl)
instance:hk Tryz.prog 330 [(0,1)] [.pointer none]:=hk.mk' Tryz.underlying330 (by kernel_rfl) (by kernel_rfl)
instance:r6 Tryz.prog 339 (.agg #[.pointer none,.slice none 0 0,.int .i64 0]):=⟨by kernel_rfl⟩
instance:bX Tryz.prog 339 0 0:=bX.mk' Tryz.underlying339 rfl rfl (by kernel_rfl)
instance:bX Tryz.prog 339 1 1:=bX.mk' Tryz.underlying339 rfl rfl (by kernel_rfl)
instance:bX Tryz.prog 339 2 2:=bX.mk' Tryz.underlying339 rfl rfl (by kernel_rfl)
instance:hk Tryz.prog 339 [(0,1),(1,1),(2,1)] [.pointer none,.slice none 0 0,.int .i64 0]:=hk.mk' Tryz.underlying339 (by kernel_rfl) (by kernel_rfl)
instance:FE Tryz.prog 601:=FE.mk' Tryz.underlying601 (by kernel_rfl) (by kernel_rfl)
instance:aU Tryz.prog 4:=aU.mk' Tryz.func4 rfl (by kernel_rfl)
instance:aU Tryz.prog 5:=aU.mk' Tryz.func5 rfl (by kernel_rfl)
instance:aU Tryz.prog 6:=aU.mk' Tryz.func6 rfl (by kernel_rfl)
instance:aU Tryz.prog 7:=aU.mk' Tryz.func7 rfl (by kernel_rfl)
instance:aU Tryz.prog 8:=aU.mk' Tryz.func8 rfl (by kernel_rfl)
instance:aU Tryz.prog 9:=aU.mk' Tryz.func9 rfl (by kernel_rfl)
instance:aU Tryz.prog 10:=aU.mk' Tryz.func10 rfl (by kernel_rfl)
instance:aU Tryz.prog 11:=aU.mk' Tryz.func11 rfl (by kernel_rfl)
instance:aU Tryz.prog 12:=aU.mk' Tryz.func12 rfl (by kernel_rfl)
instance:aU Tryz.prog 13:=aU.mk' Tryz.func13 rfl (by kernel_rfl)
instance:aU Tryz.prog 18:=aU.mk' Tryz.func18 rfl (by kernel_rfl)
instance:aU Tryz.prog 19:=aU.mk' Tryz.func19 rfl (by kernel_rfl)
instance:aU Tryz.prog 20:=aU.mk' Tryz.func20 rfl (by kernel_rfl)
instance:aU Tryz.prog 21:=aU.mk' Tryz.func21 rfl (by kernel_rfl)
instance:aU Tryz.prog 22:=aU.mk' Tryz.func22 rfl (by kernel_rfl)
instance:aU Tryz.prog 23:=aU.mk' Tryz.func23 rfl (by kernel_rfl)
instance:aU Tryz.prog 24:=aU.mk' Tryz.func24 rfl (by kernel_rfl)
instance:aU Tryz.prog 25:=aU.mk' Tryz.func25 rfl (by kernel_rfl)
instance:aU Tryz.prog 26:=aU.mk' Tryz.func26 rfl (by kernel_rfl)
instance:aU Tryz.prog 27:=aU.mk' Tryz.func27 rfl (by kernel_rfl)
instance:aU Tryz.prog 28:=aU.mk' Tryz.func28 rfl (by kernel_rfl)
instance:aU Tryz.prog 29:=aU.mk' Tryz.func29 rfl (by kernel_rfl)
instance:aU Tryz.prog 30:=aU.mk' Tryz.func30 rfl (by kernel_rfl)
instance:aU Tryz.prog 31:=aU.mk' Tryz.func31 rfl (by kernel_rfl)
instance:aU Tryz.prog 32:=aU.mk' Tryz.func32 rfl (by kernel_rfl)
instance:aU Tryz.prog 33:=aU.mk' Tryz.func33 rfl (by kernel_rfl)
instance:aU Tryz.prog 34:=aU.mk' Tryz.func34 rfl (by kernel_rfl)
instance:aU Tryz.prog 35:=aU.mk' Tryz.func35 rfl (by kernel_rfl)
instance:aU Tryz.prog 36:=aU.mk' Tryz.func36 rfl (by kernel_rfl)
instance:aU Tryz.prog 37:=aU.mk' Tryz.func37 rfl (by kernel_rfl)
instance:aU Tryz.prog 38:=aU.mk' Tryz.func38 rfl (by kernel_rfl)
instance:aU Tryz.prog 39:=aU.mk' Tryz.func39 rfl (by kernel_rfl)
instance:aU Tryz.prog 52:=aU.mk' Tryz.func52 rfl (by kernel_rfl)
instance:aU Tryz.prog 53:=aU.mk' Tryz.func53 rfl (by kernel_rfl)
instance:aU Tryz.prog 54:=aU.mk' Tryz.func54 rfl (by kernel_rfl)
instance:aU Tryz.prog 55:=aU.mk' Tryz.func55 rfl (by kernel_rfl)
instance:aU Tryz.prog 56:=aU.mk' Tryz.func56 rfl (by kernel_rfl)
instance:aU Tryz.prog 57:=aU.mk' Tryz.func57 rfl (by kernel_rfl)
instance:aU Tryz.prog 58:=aU.mk' Tryz.func58 rfl (by kernel_rfl)
instance:aU Tryz.prog 59:=aU.mk' Tryz.func59 rfl (by kernel_rfl)
instance:aU Tryz.prog 60:=aU.mk' Tryz.func60 rfl (by kernel_rfl)
instance:aU Tryz.prog 61:=aU.mk' Tryz.func61 rfl (by kernel_rfl)
instance:aU Tryz.prog 62:=aU.mk' Tryz.func62 rfl (by kernel_rfl)
instance:aU Tryz.prog 63:=aU.mk' Tryz.func63 rfl (by kernel_rfl)
instance:aU Tryz.prog 64:=aU.mk' Tryz.func64 rfl (by kernel_rfl)
instance:aU Tryz.prog 65:=aU.mk' Tryz.func65 rfl (by kernel_rfl)
instance:aU Tryz.prog 66:=aU.mk' Tryz.func66 rfl (by kernel_rfl)
instance:aU Tryz.prog 67:=aU.mk' Tryz.func67 rfl (by kernel_rfl)
instance:aU Tryz.prog 68:=aU.mk' Tryz.func68 rfl (by kernel_rfl)
instance:aU Tryz.prog 69:=aU.mk' Tryz.func69 rfl (by kernel_rfl)
instance:aU Tryz.prog 70:=aU.mk' Tryz.func70 rfl (by kernel_rfl)
instance:aU Tryz.prog 71:=aU.mk' Tryz.func71 rfl (by kernel_rfl)
instance:aU Tryz.prog 92:=aU.mk' Tryz.func92 rfl (by kernel_rfl)
instance:aU Tryz.prog 93:=aU.mk' Tryz.func93 rfl (by kernel_rfl)
instance:aU Tryz.prog 94:=aU.mk' Tryz.func94 rfl (by kernel_rfl)
instance:aU Tryz.prog 95:=aU.mk' Tryz.func95 rfl (by kernel_rfl)
instance:aU Tryz.prog 96:=aU.mk' Tryz.func96 rfl (by kernel_rfl)
instance:aU Tryz.prog 97:=aU.mk' Tryz.func97 rfl (by kernel_rfl)
instance:aU Tryz.prog 98:=aU.mk' Tryz.func98 rfl (by kernel_rfl)
instance:aU Tryz.prog 99:=aU.mk' Tryz.func99 rfl (by kernel_rfl)
instance:aU Tryz.prog 100:=aU.mk' Tryz.func100 rfl (by kernel_rfl)
instance:aU Tryz.prog 101:=aU.mk' Tryz.func101 rfl (by kernel_rfl)
instance:aU Tryz.prog 102:=aU.mk' Tryz.func102 rfl (by kernel_rfl)
instance:aU Tryz.prog 103:=aU.mk' Tryz.func103 rfl (by kernel_rfl)
instance:aU Tryz.prog 104:=aU.mk' Tryz.func104 rfl (by kernel_rfl)
instance:aU Tryz.prog 105:=aU.mk' Tryz.func105 rfl (by kernel_rfl)
instance:aU Tryz.prog 106:=aU.mk' Tryz.func106 rfl (by kernel_rfl)
instance:aU Tryz.prog 107:=aU.mk' Tryz.func107 rfl (by kernel_rfl)
instance:aU Tryz.prog 108:=aU.mk' Tryz.func108 rfl (by kernel_rfl)
instance:aU Tryz.prog 109:=aU.mk' Tryz.func109 rfl (by kernel_rfl)
instance:aU Tryz.prog 110:=aU.mk' Tryz.func110 rfl (by kernel_rfl)
instance:aU Tryz.prog 111:=aU.mk' Tryz.func111 rfl (by kernel_rfl)
instance:aU Tryz.prog 112:=aU.mk' Tryz.func112 rfl (by kernel_rfl)
instance:aU Tryz.prog 113:=aU.mk' Tryz.func113 rfl (by kernel_rfl)
instance:aU Tryz.prog 114:=aU.mk' Tryz.func114 rfl (by kernel_rfl)
instance:aU Tryz.prog 115:=aU.mk' Tryz.func115 rfl (by kernel_rfl)
instance:aU Tryz.prog 116:=aU.mk' Tryz.func116 rfl (by kernel_rfl)
instance:aU Tryz.prog 117:=aU.mk' Tryz.func117 rfl (by kernel_rfl)
instance:aU Tryz.prog 133:=aU.mk' Tryz.func133 rfl (by kernel_rfl)
instance:aU Tryz.prog 134:=aU.mk' Tryz.func134 rfl (by kernel_rfl)
instance:aU Tryz.prog 135:=aU.mk' Tryz.func135 rfl (by kernel_rfl)
instance:aU Tryz.prog 136:=aU.mk' Tryz.func136 rfl (by kernel_rfl)
instance:aU Tryz.prog 137:=aU.mk' Tryz.func137 rfl (by kernel_rfl)
instance:aU Tryz.prog 138:=aU.mk' Tryz.func138 rfl (by kernel_rfl)
instance:aU Tryz.prog 139:=aU.mk' Tryz.func139 rfl (by kernel_rfl)
instance:aU Tryz.prog 140:=aU.mk' Tryz.func140 rfl (by kernel_rfl)
instance:aU Tryz.prog 141:=aU.mk' Tryz.func141 rfl (by kernel_rfl)
instance:aU Tryz.prog 142:=aU.mk' Tryz.func142 rfl (by kernel_rfl)
instance:aU Tryz.prog 143:=aU.mk' Tryz.func143 rfl (by kernel_rfl)
instance:aU Tryz.prog 144:=aU.mk' Tryz.func144 rfl (by kernel_rfl)
instance:aU Tryz.prog 145:=aU.mk' Tryz.func145 rfl (by kernel_rfl)
instance:aU Tryz.prog 147:=aU.mk' Tryz.func147 rfl (by kernel_rfl)
instance:aU Tryz.prog 148:=aU.mk' Tryz.func148 rfl (by kernel_rfl)
instance:aU Tryz.prog 149:=aU.mk' Tryz.func149 rfl (by kernel_rfl)
instance:aU Tryz.prog 150:=aU.mk' Tryz.func150 rfl (by kernel_rfl)
instance:aU Tryz.prog 151:=aU.mk' Tryz.func151 rfl (by kernel_rfl)
instance:aU Tryz.prog 152:=aU.mk' Tryz.func152 rfl (by kernel_rfl)
instance:aU Tryz.prog 153:=aU.mk' Tryz.func153 rfl (by kernel_rfl)
instance:aU Tryz.prog 154:=aU.mk' Tryz.func154 rfl (by kernel_rfl)
instance:aU Tryz.prog 155:=aU.mk' Tryz.func155 rfl (by kernel_rfl)
instance:aU Tryz.prog 159:=aU.mk' Tryz.func159 rfl (by kernel_rfl)
instance:aU Tryz.prog 195:=aU.mk' Tryz.func195 rfl (by kernel_rfl)
instance:aU Tryz.prog 196:=aU.mk' Tryz.func196 rfl (by kernel_rfl)
instance:aU Tryz.prog 197:=aU.mk' Tryz.func197 rfl (by kernel_rfl)
instance:aU Tryz.prog 198:=aU.mk' Tryz.func198 rfl (by kernel_rfl)
instance:aU Tryz.prog 199:=aU.mk' Tryz.func199 rfl (by kernel_rfl)
instance:aU Tryz.prog 200:=aU.mk' Tryz.func200 rfl (by kernel_rfl)
instance:aU Tryz.prog 201:=aU.mk' Tryz.func201 rfl (by kernel_rfl)
instance:aU Tryz.prog 202:=aU.mk' Tryz.func202 rfl (by kernel_rfl)
instance:aU Tryz.prog 203:=aU.mk' Tryz.func203 rfl (by kernel_rfl)
instance:aU Tryz.prog 204:=aU.mk' Tryz.func204 rfl (by kernel_rfl)
instance:aU Tryz.prog 205:=aU.mk' Tryz.func205 rfl (by kernel_rfl)
instance:aU Tryz.prog 206:=aU.mk' Tryz.func206 rfl (by kernel_rfl)
instance:aU Tryz.prog 207:=aU.mk' Tryz.func207 rfl (by kernel_rfl)
instance:aU Tryz.prog 208:=aU.mk' Tryz.func208 rfl (by kernel_rfl)
instance:aU Tryz.prog 209:=aU.mk' Tryz.func209 rfl (by kernel_rfl)
instance:aU Tryz.prog 210:=aU.mk' Tryz.func210 rfl (by kernel_rfl)
instance:aU Tryz.prog 212:=aU.mk' Tryz.func212 rfl (by kernel_rfl)
instance:aU Tryz.prog 214:=aU.mk' Tryz.func214 rfl (by kernel_rfl)
instance:aU Tryz.prog 215:=aU.mk' Tryz.func215 rfl (by kernel_rfl)
instance:aU Tryz.prog 219:=aU.mk' Tryz.func219 rfl (by kernel_rfl)
instance:aU Tryz.prog 223:=aU.mk' Tryz.func223 rfl (by kernel_rfl)
instance:aU Tryz.prog 224:=aU.mk' Tryz.func224 rfl (by kernel_rfl)
instance:aU Tryz.prog 291:=aU.mk' Tryz.func291 rfl (by kernel_rfl)
instance:aU Tryz.prog 292:=aU.mk' Tryz.func292 rfl (by kernel_rfl)
instance:aU Tryz.prog 293:=aU.mk' Tryz.func293 rfl (by kernel_rfl)
instance:aU Tryz.prog 294:=aU.mk' Tryz.func294 rfl (by kernel_rfl)
instance:aU Tryz.prog 295:=aU.mk' Tryz.func295 rfl (by kernel_rfl)
instance:aU Tryz.prog 296:=aU.mk' Tryz.func296 rfl (by kernel_rfl)
instance:aU Tryz.prog 297:=aU.mk' Tryz.func297 rfl (by kernel_rfl)
instance:aU Tryz.prog 298:=aU.mk' Tryz.func298 rfl (by kernel_rfl)
instance:aU Tryz.prog 300:=aU.mk' Tryz.func300 rfl (by kernel_rfl)
instance:aU Tryz.prog 301:=aU.mk' Tryz.func301 rfl (by kernel_rfl)
instance:aU Tryz.prog 302:=aU.mk' Tryz.func302 rfl (by kernel_rfl)
instance:aU Tryz.prog 303:=aU.mk' Tryz.func303 rfl (by kernel_rfl)
instance:aU Tryz.prog 306:=aU.mk' Tryz.func306 rfl (by kernel_rfl)
instance:aU Tryz.prog 371:=aU.mk' Tryz.func371 rfl (by kernel_rfl)
instance:aU Tryz.prog 372:=aU.mk' Tryz.func372 rfl (by kernel_rfl)
instance:aU Tryz.prog 373:=aU.mk' Tryz.func373 rfl (by kernel_rfl)
instance:aU Tryz.prog 374:=aU.mk' Tryz.func374 rfl (by kernel_rfl)
instance:aU Tryz.prog 375:=aU.mk' Tryz.func375 rfl (by kernel_rfl)
instance:aU Tryz.prog 376:=aU.mk' Tryz.func376 rfl (by kernel_rfl)
end Go.Proofs.YtcgjepodnfjggaaGreatDoor
end
section
namespace Go.cv
def ou(m:Nat):Nat:=[0,0,0,0xB,0x13,0x25,0x43,0x89,0x11D,0x211,0x409,0x805,0x1053,0x201B,0x4443].getD m 0
def c3(sz p x:Nat):Nat:=bif Nat.ble sz (2*x) then Nat.xor (2*x) p else 2*x
def goes(sz p:Nat):Nat→Nat→Nat→Bool
 |0,x,S=>Nat.beq x 1&&Nat.beq S (2^sz- 2)
 |k+1,x,S=>bif Nat.beq (Nat.land (Nat.shiftRight S x) 1) 1 then false else goes sz p k (c3 sz p x) (Nat.lor S (2^x))
def iJ(m x:Nat):Nat:=c3 (2^m) (ou m) x
def eZ(m:Nat):Nat→Nat→Nat
 |0,x=>x
 |k+1,x=>iJ m (eZ m k x)
def ex(m i:Nat):Nat:=eZ m i 1
def N(m:Nat):Nat:=2^m- 1
structure Ok(m:Nat):Prop where
 lo:3≤m
 hi:m≤14
section
set_option maxRecDepth 100000
theorem G2(m:Nat)(h:Ok m):goes (2^m) (ou m) (2^m- 1) 1 0=true:=by
 obtain⟨aa,ab⟩:=h;have:m=3∨m=4∨m=5∨m=6∨m=7∨m=8∨m=9∨m=10∨m=11∨m=12∨m=13∨m=14:=by omega
 rcases this with rfl|rfl|rfl|rfl|rfl|rfl|rfl|rfl|rfl|rfl|rfl|rfl<;>decide+kernel
theorem arc(m:Nat)(h:Ok m):(Nat.ble (2^m) (ou m)&&Nat.blt (ou m) (2^(m+1)))=true:=by
 obtain⟨aa,ab⟩:=h;have:m=3∨m=4∨m=5∨m=6∨m=7∨m=8∨m=9∨m=10∨m=11∨m=12∨m=13∨m=14:=by omega
 rcases this with rfl|rfl|rfl|rfl|rfl|rfl|rfl|rfl|rfl|rfl|rfl|rfl<;>decide+kernel
end
theorem QL(m k x:Nat):eZ m (k+1) x=eZ m k (iJ m x):=by
 induction k with
 |zero=>rfl
 |succ k ih=>show iJ m (eZ m (k+1) x)=iJ m (eZ m k (iJ m x));rw[ih]
theorem YN(m i j x:Nat):eZ m (i+j) x=eZ m i (eZ m j x):=by
 induction i with
 |zero=>simp[eZ]
 |succ i ih=>rw[Nat.succ_add];show iJ m (eZ m (i+j) x)=iJ m (eZ m i (eZ m j x));rw[ih]
theorem E9(m:Nat):∀(k x S:Nat),goes (2^m) (ou m) k x S=true→eZ m k x=1∧(∀y,(2^2^m- 2).testBit y=(S.testBit y||decide (∃j,j<k∧eZ m j x=y)))∧
  ∀j,j<k→S.testBit (eZ m j x)=false∧∀i,i<j→eZ m i x≠eZ m j x
 |0,x,S,h=>by
  simp only[goes,Bool.and_eq_true,Nat.beq_eq] at h;exact⟨h.1,fun y=>by rw[←h.2];simp,fun j ax=>by omega⟩
 |k+1,x,S,h=>by
  unfold goes at h;cases ad:Nat.beq (Nat.land (Nat.shiftRight S x) 1) 1 with
  |true=>rw[ad] at h;cases h
  |false=>
   rw[ad] at h;simp only[cond_false] at h;have wh:S.testBit x=false:=by
    simp only[Nat.testBit,bne_eq_false_iff_eq];have aa:Nat.land (Nat.shiftRight S x) 1≠1:=fun e=>by rw[e] at ad;cases ad
    have ab:Nat.land (Nat.shiftRight S x) 1=(S>>>x)%2:=Nat.and_one_is_mod _;have an:1&&&S>>>x=(S>>>x)%2:=by rw[Nat.and_comm];exact Nat.and_one_is_mod _
    rw[an];omega
   obtain⟨aa,ab,an⟩:=E9 m k _ _ h;have be:∀y,(Nat.lor S (2^x)).testBit y=(S.testBit y||decide (x=y)):=fun y=>by
    show(S|||2^x).testBit y=_;rw[Nat.testBit_or,Nat.testBit_two_pow]
   have e:∀j,eZ m j (c3 (2^m) (ou m) x)=eZ m (j+1) x:=fun j=>(QL m j x).symm;refine⟨by rw[QL];exact aa,fun y=>?_,fun j ax=>?_⟩
   ·rw[ab y,be y,Bool.or_assoc];congr 1;rw[Bool.eq_iff_iff];simp only[Bool.or_eq_true,decide_eq_true_eq];constructor
    ·rintro(h|⟨j,ax,h⟩)
     ·exact⟨0,by omega,h⟩
     ·exact⟨j+1,by omega,by rw[←e];exact h⟩
    ·rintro⟨j,ax,h⟩;cases j with
     |zero=>exact .inl h
     |succ j=>exact .inr ⟨j,by omega,by rw[e];exact h⟩
   ·cases j with
    |zero=>exact⟨wh,fun i hi=>by omega⟩
    |succ j=>
     obtain⟨aK,bo⟩:=an j (by omega);rw[e,be,Bool.or_eq_false_iff,decide_eq_false_iff_not] at aK;refine⟨aK.1,fun i hi=>?_⟩;cases i with
     |zero=>exact aK.2
     |succ i=>rw[←e,←e];exact bo i (by omega)
section
variable{m:Nat}
theorem gS(h:Ok m):7≤N m∧N m≤16383:=by
 obtain⟨aa,ab⟩:=h;have a:=Nat.pow_le_pow_right (n:=2) (by omega) aa;have b:=Nat.pow_le_pow_right (n:=2) (by omega) ab;unfold N;omega
theorem kZ(m:Nat):N m+1=2^m:=by
 have:=Nat.two_pow_pos m;unfold N;omega
theorem ac9(m:Nat):ex m 0=1:=rfl
theorem QS(m i:Nat):ex m (i+1)=iJ m (ex m i):=rfl
theorem akA(h:Ok m):ex m (N m)=1:=(E9 m _ _ _ (G2 m h)).1
theorem Jn(h:Ok m){i j:Nat}(hi:i<N m)(ax:j<N m)(he:ex m i=ex m j):i=j:=by
 have:=(E9 m _ _ _ (G2 m h)).2.2;rcases Nat.lt_trichotomy i j with ca|o5|nd
 ·exact absurd he ((this j ax).2 i ca)
 ·exact o5
 ·exact absurd he.symm ((this i hi).2 j nd)
theorem aaW(m y:Nat):(2^2^m- 2).testBit y=decide (1≤y∧y<2^m):=by
 have aa:2≤2^2^m:=by
  have:=Nat.pow_le_pow_right (n:=2) (by omega) (Nat.two_pow_pos m);simpa using this
 have ab:2^2^m- 2=2^2^m- (1+1):=rfl;rw[ab,Nat.testBit_two_pow_sub_succ (by omega)];have an:(1:Nat).testBit y=decide (y=0):=by
  cases y with
  |zero=>rfl
  |succ y=>simp[Nat.testBit,Nat.shiftRight_succ_inside]
 rw[an,Bool.eq_iff_iff];simp only[Bool.and_eq_true,decide_eq_true_eq,Bool.not_eq_true',decide_eq_false_iff_not];omega
theorem amz(h:Ok m){i:Nat}(hi:i<N m):1≤ex m i∧ex m i<2^m:=by
 have:=(E9 m _ _ _ (G2 m h)).2.1 (ex m i);rw[aaW] at this;have ab:decide (∃j,j<2^m- 1∧eZ m j 1=ex m i)=true:=by simp;exact⟨i,hi,rfl⟩
 rw[ab,Bool.or_true] at this;simpa using this
theorem MX(h:Ok m){x:Nat}(aa:1≤x)(ab:x<2^m):∃i,i<N m∧ex m i=x:=by
 have:=(E9 m _ _ _ (G2 m h)).2.1 x;rw[aaW] at this;have an:decide (1≤x∧x<2^m)=true:=by simp;omega
 rw[an] at this;simp at this;exact this
theorem akx(h:Ok m)(i:Nat):ex m (i+N m)=ex m i:=by
 show eZ m (i+N m) 1=eZ m i 1;rw[YN];have:=akA h;unfold ex at this;rw[this]
theorem aoX(h:Ok m)(i k:Nat):ex m (i+k*N m)=ex m i:=by
 induction k with
 |zero=>simp
 |succ k ih=>rw[Nat.succ_mul,←Nat.add_assoc,akx h,ih]
theorem Cb(h:Ok m)(i:Nat):ex m (i%N m)=ex m i:=by
 have ab:=aoX h (i%N m) (i/ N m);rw[Nat.add_comm,Nat.mul_comm,Nat.div_add_mod] at ab;exact ab.symm
theorem ns(h:Ok m)(i:Nat):1≤ex m i∧ex m i<2^m:=by
 rw[←Cb h];exact amz h (Nat.mod_lt _ (by have:=gS h;omega))
theorem acQ(h:Ok m)(i j:Nat):ex m i=ex m j↔i%N m=j%N m:=by
 have aG:=gS h;rw[←Cb h i,←Cb h j];exact⟨fun he=>Jn h (Nat.mod_lt _ (by omega)) (Nat.mod_lt _ (by omega)) he,fun he=>by rw[he]⟩
noncomputable def hZ(m x:Nat):Nat:=open Classical in if h:∃i,i<N m∧ex m i=x then Classical.choose h else 0
theorem BH(h:Ok m){x:Nat}(aa:1≤x)(ab:x<2^m):hZ m x<N m∧ex m (hZ m x)=x:=by
 have:=MX h aa ab;unfold hZ;rw[dif_pos this];exact Classical.choose_spec this
theorem Yy(h:Ok m){i:Nat}(hi:i<N m):hZ m (ex m i)=i:=by
 have:=BH h (ns h i).1 (ns h i).2;exact Jn h this.1 hi this.2
theorem KB(h:Ok m):2^m≤ou m∧ou m<2^(m+1):=by
 have:=arc m h;rw[Bool.and_eq_true] at this;exact⟨Nat.le_of_ble_eq_true this.1,Nat.le_of_ble_eq_true this.2⟩
theorem w0(m x:Nat):iJ m x=if 2^m≤2*x then(2*x)^^^ou m else 2*x:=by
 unfold iJ c3;by_cases ag:2^m≤2*x
 ·rw[if_pos ag,Nat.ble_eq_true_of_le ag];rfl
 ·rw[if_neg ag];have:Nat.ble (2^m) (2*x)=false:=by
   cases ad:Nat.ble (2^m) (2*x) with
   |false=>rfl
   |true=>exact absurd (Nat.le_of_ble_eq_true ad) ag
  rw[this];rfl
theorem CM{m x:Nat}(af:x<2^(m+1)):x.testBit m=decide (2^m≤x):=by
 rw[Bool.eq_iff_iff,decide_eq_true_eq];constructor
 ·exact Nat.ge_two_pow_of_testBit
 ·intro hle;have aa:x/ 2^m=1:=by
   have aG:=Nat.two_pow_pos m;rw[Nat.pow_succ] at af;exact Nat.div_eq_of_lt_le (by omega) (by omega)
  rw[Nat.testBit_eq_decide_div_mod_eq,aa];rfl
theorem Lc(h:Ok m){x:Nat}(af:x<2^m):iJ m x=(2*x)^^^(if x.testBit (m- 1) then ou m else 0):=by
 have hm:=h.lo;have tH:2*x<2^(m+1):=by rw[Nat.pow_succ];omega
 have ad:x.testBit (m- 1)=decide (2^m≤2*x):=by
  have e:m- 1+1=m:=by omega
  rw[CM (by rw[e];exact af)];rw[Bool.eq_iff_iff,decide_eq_true_eq,decide_eq_true_eq];have:2^m=2*2^(m- 1):=by rw[←e,Nat.pow_succ,e];omega
  omega
 rw[w0,ad];by_cases ag:2^m≤2*x<;>simp[ag]
theorem aqu(h:Ok m){x:Nat}(af:x<2^m):iJ m x<2^m:=by
 have tH:2*x<2^(m+1):=by rw[Nat.pow_succ];omega
 obtain⟨yU,fF⟩:=KB h;rw[w0];by_cases ag:2^m≤2*x
 ·rw[if_pos ag];have aa:(2*x)^^^ou m<2^(m+1):=Nat.xor_lt_two_pow tH fF;have ab:((2*x)^^^ou m).testBit m=false:=by
   rw[Nat.testBit_xor,CM tH,CM fF];simp[ag,yU]
  rw[CM aa] at ab;simpa using ab
 ·rw[if_neg ag];omega
theorem BU(a b c:Nat):a^^^(b^^^c)=b^^^(a^^^c):=by rw[←Nat.xor_assoc,Nat.xor_comm a b,Nat.xor_assoc]
theorem Ry(a b:Nat):a^^^(a^^^b)=b:=by rw[←Nat.xor_assoc,Nat.xor_self,Nat.zero_xor]
theorem JL(a b:Nat):a^^^(a^^^b)=b:=by rw[←Nat.xor_assoc,Nat.xor_self,Nat.zero_xor]
theorem ahk(a b:Nat):2*(a^^^b)=(2*a)^^^(2*b):=by
 have e:∀x,2*x=x<<<1:=fun x=>by rw[Nat.shiftLeft_eq];omega
 rw[e,e,e,Nat.shiftLeft_xor_distrib]
theorem mY{a b m:Nat}(aj:a<2^m)(ad:b<2^m):a^^^b<2^m:=Nat.xor_lt_two_pow aj ad
theorem abP(h:Ok m){a b:Nat}(aj:a<2^m)(ad:b<2^m):iJ m (a^^^b)=iJ m a^^^iJ m b:=by
 rw[Lc h aj,Lc h ad,Lc h (mY aj ad),ahk,Nat.testBit_xor];cases a.testBit (m- 1)<;>cases b.testBit (m- 1)<;>simp[Nat.xor_assoc,Nat.xor_comm,BU,Ry]
theorem NF(m:Nat):iJ m 0=0:=by
 rw[w0,if_neg];have:=Nat.two_pow_pos m;omega
theorem ahP(m k:Nat):eZ m k 0=0:=by
 induction k with
 |zero=>rfl
 |succ k ih=>show iJ m (eZ m k 0)=0;rw[ih,NF]
theorem yK(h:Ok m)(k:Nat){x:Nat}(af:x<2^m):eZ m k x<2^m:=by
 induction k with
 |zero=>exact af
 |succ k ih=>exact aqu h ih
theorem adB(h:Ok m)(k:Nat){a b:Nat}(aj:a<2^m)(ad:b<2^m):eZ m k (a^^^b)=eZ m k a^^^eZ m k b:=by
 induction k with
 |zero=>rfl
 |succ k ih=>show iJ m (eZ m k (a^^^b))=iJ m (eZ m k a)^^^iJ m (eZ m k b);rw[ih,abP h (yK h k aj) (yK h k ad)]
def hb(m a b:Nat):Nat→Nat
 |0=>0
 |k+1=>hb m a b k^^^(if b.testBit k then eZ m k a else 0)
def ba(m a b:Nat):Nat:=hb m a b m
theorem Pr(h:Ok m){a:Nat}(aj:a<2^m)(b k:Nat):hb m a b k<2^m:=by
 induction k with
 |zero=>exact Nat.two_pow_pos m
 |succ k ih=>
  refine mY ih ?_;split
  ·exact yK h k aj
  ·exact Nat.two_pow_pos m
theorem eL(h:Ok m){a:Nat}(aj:a<2^m)(b:Nat):ba m a b<2^m:=Pr h aj b m
theorem ag5(h:Ok m){a bN:Nat}(aj:a<2^m)(Ew:bN<2^m)(b k:Nat):hb m (a^^^bN) b k=hb m a b k^^^hb m bN b k:=by
 induction k with
 |zero=>simp[hb]
 |succ k ih=>
  simp only[hb,ih,adB h k aj Ew];cases b.testBit k<;>simp[Nat.xor_assoc,Nat.xor_comm,BU,Ry]
theorem zQ(h:Ok m){a bN:Nat}(aj:a<2^m)(Ew:bN<2^m)(b:Nat):ba m (a^^^bN) b=ba m a b^^^ba m bN b:=ag5 h aj Ew b m
theorem anh(m a b sa k:Nat):hb m a (b^^^sa) k=hb m a b k^^^hb m a sa k:=by
 induction k with
 |zero=>simp[hb]
 |succ k ih=>
  simp only[hb,ih,Nat.testBit_xor];cases b.testBit k<;>cases sa.testBit k<;>simp[Nat.xor_assoc,Nat.xor_comm,BU,Ry]
theorem z8(m a b sa:Nat):ba m a (b^^^sa)=ba m a b^^^ba m a sa:=anh m a b sa m
theorem adg(h:Ok m){a:Nat}(aj:a<2^m)(b k:Nat):hb m (iJ m a) b k=iJ m (hb m a b k):=by
 induction k with
 |zero=>exact(NF m).symm
 |succ k ih=>
  simp only[hb,ih];rw[abP h (Pr h aj b k) (by split;exact yK h k aj;exact Nat.two_pow_pos m),←QL];split
  ·rfl
  ·rw[NF]
theorem et(m b:Nat):ba m 0 b=0:=by
 have:∀k,hb m 0 b k=0:=fun k=>by
  induction k with
  |zero=>rfl
  |succ k ih=>simp[hb,ih,ahP]
 exact this m
theorem jn(m a:Nat):ba m a 0=0:=by
 have:∀k,hb m a 0 k=0:=fun k=>by
  induction k with
  |zero=>rfl
  |succ k ih=>simp[hb,ih]
 exact this m
theorem UZ(_h:Ok m){k:Nat}(ah:k<m):eZ m k 1=2^k:=by
 induction k with
 |zero=>rfl
 |succ k ih=>
  show iJ m (eZ m k 1)=_;rw[ih (by omega),w0,if_neg,Nat.pow_succ]
  ·omega
  ·have:=Nat.pow_lt_pow_right (a:=2) (by omega) ah;rw[Nat.pow_succ] at this;omega
theorem arI(h:Ok m)(b:Nat):∀k,k≤m→hb m 1 b k=b%2^k:=by
 intro k;induction k with
 |zero=>intro _;simp[hb,Nat.mod_one]
 |succ k ih=>
  intro ah;simp only[hb,ih (by omega),UZ h (by omega:k<m)];apply Nat.eq_of_testBit_eq;intro i;rw[Nat.testBit_xor,Nat.testBit_mod_two_pow,Nat.testBit_mod_two_pow];by_cases ad:b.testBit k=true
  ·rw[if_pos ad,Nat.testBit_two_pow];by_cases EW:i=k
   ·subst EW;simp[ad]
   ·have aa:decide (k=i)=false:=by simp;omega
    have ab:decide (i<k+1)=decide (i<k):=by rw[Bool.eq_iff_iff];simp;omega
    simp[aa,ab]
  ·rw[if_neg ad,Nat.zero_testBit];by_cases EW:i=k
   ·subst EW;simp at ad;simp[ad]
   ·have ab:decide (i<k+1)=decide (i<k):=by rw[Bool.eq_iff_iff];simp;omega
    simp[ab]
theorem l5(h:Ok m){b:Nat}(ad:b<2^m):ba m 1 b=b:=by
 unfold ba;rw[arI h b m (Nat.le_refl _),Nat.mod_eq_of_lt ad]
theorem alf(h:Ok m)(i:Nat){b:Nat}(ad:b<2^m):ba m (ex m i) b=eZ m i b:=by
 induction i with
 |zero=>exact l5 h ad
 |succ i ih=>rw[QS];unfold ba at*;rw[adg h (ns h i).2,ih];rfl
theorem wF(h:Ok m)(i j:Nat):ba m (ex m i) (ex m j)=ex m (i+j):=by
 rw[alf h i (ns h j).2];unfold ex;rw[YN]
theorem xM(h:Ok m){a:Nat}(aj:a<2^m):a=0∨∃i,i<N m∧a=ex m i:=by
 rcases Nat.eq_zero_or_pos a with aB|aB
 ·exact .inl aB
 ·obtain⟨i,hi,he⟩:=MX h aB aj;exact .inr ⟨i,hi,he.symm⟩
theorem kH(h:Ok m){a b:Nat}(aj:a<2^m)(ad:b<2^m):ba m a b=ba m b a:=by
 rcases xM h aj with rfl|⟨i,_,rfl⟩
 ·rw[et,jn]
 ·rcases xM h ad with rfl|⟨j,_,rfl⟩
  ·rw[et,jn]
  ·rw[wF h,wF h,Nat.add_comm]
theorem h0(h:Ok m){a b c:Nat}(aj:a<2^m)(ad:b<2^m)(ag:c<2^m):ba m (ba m a b) c=ba m a (ba m b c):=by
 rcases xM h aj with rfl|⟨i,_,rfl⟩
 ·simp[et]
 ·rcases xM h ad with rfl|⟨j,_,rfl⟩
  ·simp[et,jn]
  ·rcases xM h ag with rfl|⟨k,_,rfl⟩
   ·simp[jn]
   ·simp[wF h,Nat.add_assoc]
theorem ur(h:Ok m){a:Nat}(aj:a<2^m):ba m a 1=a:=by
 rw[kH h aj (Nat.one_lt_two_pow (by have:=h.lo;omega)),l5 h aj]
theorem o6(h:Ok m){a b:Nat}(aj:a<2^m)(ad:b<2^m)(h9:a≠0)(iL:b≠0):ba m a b≠0:=by
 rcases xM h aj with rfl|⟨i,_,rfl⟩
 ·exact absurd rfl h9
 ·rcases xM h ad with rfl|⟨j,_,rfl⟩
  ·exact absurd rfl iL
  ·rw[wF h];have:=(ns h (i+j)).1;omega
theorem afh(h:Ok m){a b:Nat}(aj:a<2^m)(ad:b<2^m)(h9:a≠0)(iL:b≠0):ba m a b=ex m (hZ m a+hZ m b):=by
 have aa:=BH h (by omega:1≤a) aj;have ab:=BH h (by omega:1≤b) ad;rw[←wF h,aa.2,ab.2]
end
end Go.cv
end
section
namespace Go.a6
open Go
theorem sI(a:Int):(BitVec.ofInt 64 a).toNat=(a%18446744073709551616).toNat:=by
 rw[Hl];rfl
theorem ahA(x:Int):IntKind.i64.wrap x%18446744073709551616=x%18446744073709551616:=by
 simp only[IntKind.wrap,IntKind.signed,IntKind.bits];simp;split<;>omega
theorem J6{x:Nat}(h:x<2^63):IntKind.i64.wrap (x:Int)=x:=bm (by omega)
theorem aqG{a:Int}{m n:Nat}(h:m≤n):(a%((2^n:Nat):Int))%((2^m:Nat):Int)=a%((2^m:Nat):Int):=by
 obtain⟨k,rfl⟩:=O7 h;rw[EK];exact N5 a ⟨((2^k:Nat):Int),by push_cast;rfl⟩
theorem Fy{a:Int}{m:Nat}(h:m≤64):(a%18446744073709551616).toNat%2^m=(a%((2^m:Nat):Int)).toNat:=by
 have aa:=aqG (a:=a) h;have aB:0≤a%((2^64:Nat):Int):=ng _ (by decide);have e:((2^64:Nat):Int)=18446744073709551616:=by decide
 rw[e] at aa aB;rw[←aa];obtain⟨n,aQ⟩:=xX aB;rw[aQ,jK,←Oi,jK]
theorem Uq(a b:Int):gX .and .i64 a b=IntKind.i64.wrap ((BitVec.ofInt 64 a&&&BitVec.ofInt 64 b).toNat:Nat):=rfl
theorem aaG(a b:Int):gX .xor .i64 a b=IntKind.i64.wrap ((BitVec.ofInt 64 a^^^BitVec.ofInt 64 b).toNat:Nat):=rfl
theorem ap3(a b:Int):gX .or .i64 a b=IntKind.i64.wrap ((BitVec.ofInt 64 a|||BitVec.ofInt 64 b).toNat:Nat):=rfl
theorem anz(a:Int){m:Nat}(h:m≤62){s:Int}(aq:s=((2^m:Nat):Int)- 1):gX .and .i64 a s=a%((2^m:Nat):Int):=by
 have aG:=eI m;have hle:=px (n:=2) (by omega) h;have ud:s=((2^m- 1:Nat):Int):=by rw[aq];omega
 have bu:(s%18446744073709551616).toNat=2^m- 1:=by rw[ud,pc (by omega) (by omega)];omega
 have ab:=ng a (b:=((2^m:Nat):Int)) (by omega);have an:=tV a (b:=((2^m:Nat):Int)) (by omega);rw[Uq,zP,sI,sI,bu,Nw,Fy (by omega:m≤64),bm (by omega)];omega
theorem ajK{x m:Nat}(h:m≤64):(IntKind.i64.wrap (x:Int)%((2^m:Nat):Int)).toNat=x%2^m:=by
 rw[←Fy h,ahA,Fy h,←Oi,jK]
theorem aj1(a b:Int){m:Nat}(h:m≤64):(gX .xor .i64 a b%((2^m:Nat):Int)).toNat=(a%((2^m:Nat):Int)).toNat^^^(b%((2^m:Nat):Int)).toNat:=by
 rw[aaG,DQ,sI,sI,ajK h,XG,Fy h,Fy h]
theorem zY{x:Nat}(h:x<2^63):((x:Int)%18446744073709551616).toNat=x:=by omega
theorem TJ{x y:Nat}(af:x<2^63)(aF:y<2^63):gX .and .i64 x y=((x&&&y:Nat):Int):=by
 rw[Uq,zP,sI,sI,zY af,zY aF];exact J6 (lU BN af)
theorem xd{x y:Nat}(af:x<2^63)(aF:y<2^63):gX .xor .i64 x y=((x^^^y:Nat):Int):=by
 rw[aaG,DQ,sI,sI,zY af,zY aF];exact J6 (mR af aF)
theorem Jt{x y:Nat}(af:x<2^63)(aF:y<2^63):gX .or .i64 x y=((x|||y:Nat):Int):=by
 rw[ap3,OG,sI,sI,zY af,zY aF];exact J6 (Bb af aF)
theorem AF{x k:Nat}(ah:k≤62)(h:x*2^k<2^63):IntKind.i64.wrap ((x:Int)*2^(min (k:Int).toNat IntKind.i64.bits))=((x*2^k:Nat):Int):=by
 have:min (k:Int).toNat IntKind.i64.bits=k:=by simp[IntKind.bits];omega
 rw[this];have e:(x:Int)*2^k=((x*2^k:Nat):Int):=by push_cast;rfl
 rw[e];exact J6 h
theorem Kb{x k:Nat}(ah:k≤64):((x:Int)).fdiv (2^(min (k:Int).toNat IntKind.i64.bits))=((x>>>k:Nat):Int):=by
 have:min (k:Int).toNat IntKind.i64.bits=k:=by simp[IntKind.bits];omega
 rw[this,jp,HM _ (by exact N6 (PP (by decide)))]
 push_cast
 rfl
theorem aoD{x:Nat}(h:2*x<2^63):IntKind.i64.wrap ((x:Int)*2^(min (1:Int).toNat IntKind.i64.bits))=((2*x:Nat):Int):=by
 have:=AF (x:=x) (k:=1) (by omega) (by omega);rw[show x*2^1=2*x by omega] at this;exact this
theorem ZB(x:Nat):((x:Int)).fdiv (2^(min (1:Int).toNat IntKind.i64.bits))=((x>>>1:Nat):Int):=Kb (k:=1) (by omega)
theorem UP{x:Nat}(h:0<x):x>>>1<x:=by rw[Nat.shiftRight_eq_div_pow];omega
end Go.a6
end
section
namespace Go.Proofs.YtcgjepodnfjggaaGreatDoor
open Go.a6 Go.cv
set_option maxRecDepth 100000
def Ja(m:Nat):cw:=(List.range (N m)).map (fun i=>.int .i64 (ex m i:Nat))
noncomputable def GY(m:Nat):cw:=(List.range (N m+1)).map (fun x=>.int .i64 ((if x=0 then 0 else hZ m x:Nat)))
def fL(g m:Nat):bi where
 ok w D:=∃ge e5,D g∧D ge∧D e5∧w.heap[g]?=some (.cells #[.int .i64 (m:Nat),.int .i64 ((N m+1:Nat):Int),.slice (some ⟨ge,0,none⟩) (N m) (N m),.slice (some ⟨e5,0,none⟩) (N m+1) (N m+1)] 190 (0,0))∧
  w.heap[ge]?=some (.cells (Ja m).toArray 3 (0,0))∧w.heap[e5]?=some (.cells (GY m).toArray 3 (0,0))
 loc:=by
  rintro w ar D ⟨ge,e5,aa,ab,an,aK,bo,cd⟩ ad
  exact⟨ge,e5,aa,ab,an,by rw[ad g aa];exact aK,by rw[ad ge ab];exact bo,by rw[ad e5 an];exact cd⟩
structure acf(w:ao)(g m ge e5:Nat):Prop where
 ac7:w.cell? ⟨g,0,none⟩=some (.int .i64 (m:Nat))
 xJ:w.cell? ⟨g,1,none⟩=some (.int .i64 ((N m+1:Nat):Int))
 alC:w.cell? ⟨g,2,none⟩=some (.slice (some ⟨ge,0,none⟩) (N m) (N m))
 WT:w.cell? ⟨g,3,none⟩=some (.slice (some ⟨e5,0,none⟩) (N m+1) (N m+1))
 anp:∀i:Nat,i<N m→w.cell? ⟨ge,i,none⟩=some (.int .i64 (ex m i:Nat))
 aqT:∀x:Nat,x<N m+1→x≠0→w.cell? ⟨e5,x,none⟩=some (.int .i64 (hZ m x:Nat))
theorem xF{w:ao}{g m:Nat}(h:Has (fL g m) w):∃ge e5,acf w g m ge e5:=by
 obtain⟨D,⟨ge,e5,_,_,_,aK,bo,cd⟩,_⟩:=h;refine⟨ge,e5,qC aK 0,qC aK 1,qC aK 2,qC aK 3,fun i hi=>?_,fun x af aB=>?_⟩
 ·rw[qC bo];simp[Ja,hi]
 ·rw[qC cd];simp[GY,af,aB]
def lo(m:Nat)(a:Int):Nat:=(a%((2^m:Nat):Int)).toNat
def em(m:Nat)(n:Int):Nat:=(n%((N m:Nat):Int)).toNat
theorem lJ(m:Nat)(a:Int):lo m a<2^m:=by
 have h:=eI m;have aa:=ng a (b:=((2^m:Nat):Int)) (by omega);have ab:=tV a (b:=((2^m:Nat):Int)) (by omega);unfold lo;omega
theorem I3(m:Nat)(a:Int):lo m a<N m+1:=by rw[kZ];exact lJ m a
theorem hC{m x:Nat}(h:x<2^m):lo m (x:Nat)=x:=by
 unfold lo;rw[pc (by omega) (by omega)];omega
theorem US{m:Nat}(h:Ok m)(a:Int):gX .and .i64 a (((N m+1:Nat):Int)- 1)=(lo m a:Nat):=by
 have ab:=h.hi;have aG:=eI m;have aa:=ng a (b:=((2^m:Nat):Int)) (by omega);rw[anz a (m:=m) (by omega) (by rw[kZ])];unfold lo;omega
theorem SG{m:Nat}(h:Ok m)(a b:Int):lo m (gX .xor .i64 a b)=lo m a^^^lo m b:=by
 have:=h.hi;exact aj1 a b (by omega)
theorem xN{m:Nat}(h:Ok m)(n:Int):em m n<N m:=by
 have aG:=gS h;have aa:=ng n (b:=((N m:Nat):Int)) (by omega);have ab:=tV n (b:=((N m:Nat):Int)) (by omega);unfold em;omega
theorem yp{m:Nat}(k:Nat):em m (k:Nat)=k%N m:=by
 unfold em;rw[←Oi,jK]
theorem VE{m:Nat}(h:Ok m){n:Int}(aQ:n.tmod ((N m:Nat):Int)<0):n.tmod ((N m:Nat):Int)+(N m:Nat)=(em m n:Nat):=by
 have aG:=gS h;have aa:=ng n (b:=((N m:Nat):Int)) (by omega);unfold em;rw[D0] at aQ⊢;split at aQ<;>split<;>omega
theorem Yx{m:Nat}(h:Ok m){n:Int}(aQ:¬n.tmod ((N m:Nat):Int)<0):n.tmod ((N m:Nat):Int)=(em m n:Nat):=by
 have aG:=gS h;have aa:=ng n (b:=((N m:Nat):Int)) (by omega);have ab:=tV n (b:=((N m:Nat):Int)) (by omega);unfold em;rw[D0] at aQ⊢;split at aQ<;>split<;>omega
theorem DT(m:Nat):(((N m+1:Nat):Int)- 1)=((N m:Nat):Int):=by omega
def mJ(e:Nat→Addr)(k:Nat):aV:=.iface 601 (.pointer (some (e k)))
def gI(e:Nat→Addr)(w:ao)(k:Nat):Prop:=w.cell? ⟨k,0,none⟩=some (mJ e k)
theorem _root_.Go.a6.au.mX{e:Nat→Addr}{w₀ w:ao}{L:List bi}{k:Nat}(h:bF w₀ L w)(aL:gI e w₀ k):gI e w k:=h.cell aL
theorem G0(g m:Nat)(a:Int)(w:ao)(hm:Ok m)(aI:Has (fL g m) w):cC Tryz.prog 292 [.pointer (some ⟨g,0,none⟩),.int .i64 a] w (.int .i64 (lo m a:Nat)):=by
 obtain⟨ge,e5,eH⟩:=xF aI;have aG:=gS hm;have fU:=eH.xJ;exact b8 Tryz.func292 I Tryz.ntmps292 I<|J.aw 1 I<|ak I I<|U.bl 8 I<|ac I I<|ac I I<|bI I I<|bd I I<|c5 I I (fun _ h=>h.cell (by assumption))<|eB I I I (bm (by omega))<|dY I I I I (US hm a)<|ak I I<|U.next<|J.ret<|al.ret Tryz.results292 I (fun w hw=>⟨I,hw.nothing⟩)
theorem O8(g m:Nat)(a b:Int)(w:ao)(hm:Ok m)(aI:Has (fL g m) w):cC Tryz.prog 291 [.pointer (some ⟨g,0,none⟩),.int .i64 a,.int .i64 b] w (.int .i64 (lo m a^^^lo m b:Nat)):=by
 exact b8 Tryz.func291 I Tryz.ntmps291 I<|J.aw 1 I<|ak I I<|U.bl 6 I<|ac I I<|ac I I<|ac I I<|dY I I I I I<|bJ I I I I (v:=.int .i64 (lo m a^^^lo m b:Nat)) (fun w hw=>by rw[←SG hm];exact G0 g m _ _ hm (hw.a7 aI)) aJ<|ak I I<|U.next<|J.ret<|al.ret Tryz.results291 I (fun w hw=>⟨I,hw.nothing⟩)
theorem Tx(g m:Nat)(w:ao)(hm:Ok m)(aI:Has (fL g m) w):cC Tryz.prog 94 [.pointer (some ⟨g,0,none⟩)] w (.int .i64 (m:Nat)):=by
 obtain⟨ge,e5,eH⟩:=xF aI;have aG:=gS hm;have fU:=eH.xJ;have F3:=eH.ac7;exact b8 Tryz.func94 I Tryz.ntmps94 I<|J.aw 1 I<|ak I I<|U.bl 5 I<|ac I I<|bI I I<|bd I I<|c5 I I (fun _ h=>h.cell (by assumption))<|ak I I<|U.next<|J.ret<|al.ret Tryz.results94 I (fun w hw=>⟨I,hw.nothing⟩)
theorem ani(g m:Nat)(w:ao)(hm:Ok m)(aI:Has (fL g m) w):cC Tryz.prog 296 [.pointer (some ⟨g,0,none⟩)] w (.int .i64 (N m+1:Nat)):=by
 obtain⟨ge,e5,eH⟩:=xF aI;have aG:=gS hm;have fU:=eH.xJ;exact b8 Tryz.func296 I Tryz.ntmps296 I<|J.aw 1 I<|ak I I<|U.bl 5 I<|ac I I<|bI I I<|bd I I<|c5 I I (fun _ h=>h.cell (by assumption))<|ak I I<|U.next<|J.ret<|al.ret Tryz.results296 I (fun w hw=>⟨I,hw.nothing⟩)
theorem E2(g m:Nat)(n:Int)(w:ao)(hm:Ok m)(aI:Has (fL g m) w):cC Tryz.prog 135 [.pointer (some ⟨g,0,none⟩),.int .i64 n] w (.int .i64 (ex m (em m n):Nat)):=by
 obtain⟨ge,e5,eH⟩:=xF aI;have aG:=gS hm;have fU:=eH.xJ;have c4:=eH.alC;have ca:=xN hm n;have af:=eH.anp _ ca;refine b8 Tryz.func135 I Tryz.ntmps135 I<|J.aw 1 I<|ak I I<|U.bl 8 I<|ac I I<|ac I I<|bI I I<|bd I I<|c5 I I (fun _ h=>h.cell (by assumption))<|eB I I I (bm (by omega))<|h4 I I I (by omega) (r:=n.tmod ((N m:Nat):Int)) (by rw[DT])<|ak I I<|U.next<|J.seq<|J.aw 2 I<|ac I I<|cQ I I I I<|U.next ?_;refine J.test I (fun ag=>?_) (fun ag=>?_)
 ·exact J.rg 8 I<|ac I I<|ac I I<|bI I I<|bd I I<|c5 I I (fun _ h=>h.cell (by assumption))<|eB I I I (bm (by omega))<|b1 I I I (r:=(em m n:Nat)) (by rw[DT,VE hm ag];exact bm (by omega))<|ak I I<|U.bl 8 I<|ac I I<|bI I I<|bd I I<|c5 I I (fun _ h=>h.cell (by assumption))<|ac I I<|eP (em m n) I I I I ca<|c5 I I (fun _ h=>h.cell af)<|ak I I<|U.next<|J.ret<|al.ret Tryz.results135 I (fun w hw=>⟨I,hw.nothing⟩)
 ·exact J.skip<|al.code<|J.aw 8 I<|ac I I<|bI I I<|bd I I<|c5 I I (fun _ h=>h.cell (by assumption))<|ac I I<|eP (em m n) I I I (Yx hm ag) ca<|c5 I I (fun _ h=>h.cell af)<|ak I I<|U.next<|J.ret<|al.ret Tryz.results135 I (fun w hw=>⟨I,hw.nothing⟩)
theorem RM{w:ao}{g m ge e5:Nat}(eH:acf w g m ge e5){a:Int}(aB:¬((lo m a:Nat):Int)=0):w.cell? ⟨e5,lo m a,none⟩=some (.int .i64 (hZ m (lo m a):Nat)):=eH.aqT _ (I3 m a) (by omega)
theorem ML{m:Nat}(h:Ok m){x:Nat}(aa:¬((x:Nat):Int)=0)(ab:x<2^m):hZ m x<N m:=(BH h (by omega) ab).1
theorem am5{m:Nat}(h:Ok m){a b:Int}(aj:¬((lo m a:Nat):Int)=0)(ad:¬((lo m b:Nat):Int)=0):ex m (em m ((hZ m (lo m a):Nat)+(hZ m (lo m b):Nat)))=ba m (lo m a) (lo m b):=by
 rw[afh h (lJ m a) (lJ m b) (by omega) (by omega),show(((hZ m (lo m a):Nat):Int)+(hZ m (lo m b):Nat))=((hZ m (lo m a)+hZ m (lo m b):Nat):Int) by omega,yp,Cb h]
theorem mul_zero{m:Nat}{a b:Int}(h:((lo m a:Nat):Int)=0∨((lo m b:Nat):Int)=0):0=ba m (lo m a) (lo m b):=by
 rcases h with h|h
 ·rw[show lo m a=0 by omega,et]
 ·rw[show lo m b=0 by omega,jn]
theorem Cx(g m:Nat)(a b:Int)(w:ao)(hm:Ok m)(aI:Has (fL g m) w):cC Tryz.prog 198 [.pointer (some ⟨g,0,none⟩),.int .i64 a,.int .i64 b] w (.int .i64 (ba m (lo m a) (lo m b):Nat)):=by
 obtain⟨ge,e5,eH⟩:=xF aI;have aG:=gS hm;have fU:=eH.xJ;have cF:=eH.WT;have eA:=I3 m a;have yk:=I3 m b;refine b8 Tryz.func198 I Tryz.ntmps198 I<|J.aw 1 I<|ak I I<|U.bl 8 I<|ac I I<|ac I I<|bJ I I I I (fun w hw=>G0 g m _ _ hm (hw.a7 aI)) aJ<|ac I I<|ac I I<|bJ I I I I (fun w hw=>G0 g m _ _ hm (hw.a7 aI)) aJ<|ak I I<|ak I I<|U.next<|J.seq<|J.aw 6 I<|ac I I<|gy I I I I<|ac I I ?_;refine U.bool 15 I (fun ad=>?_) (fun ad=>?_)
 ·replace ad:=gF ad;exact U.skip I<|U.skip I<|fe I I I<|U.next<|J.hH I<|J.aw 1 I<|ak I I<|U.next<|J.ret<|al.ret Tryz.results198 I (fun w hw=>⟨by rw[oneOf,←mul_zero (.inl ad)];rfl,hw⟩)
 ·replace ad:=jG ad;have Q0:=RM eH ad;have Du:=ML hm ad (lJ m a);refine ac I I<|gy I I I I<|ef I I I<|U.next ?_;refine J.test I (fun ag=>?_) (fun ag=>?_)
  ·exact J.aw 1 I<|ak I I<|U.next<|J.ret<|al.ret Tryz.results198 I (fun w hw=>⟨by rw[oneOf,←mul_zero (.inr ag)];rfl,hw⟩)
  ·have hO:=RM eH ag;have JI:=ML hm ag (lJ m b);exact J.skip<|al.code<|J.seq<|J.dQ (bW [0,1,2,3,4,5,6,7,8,9,10,11,12,13,14,15] (cj [16] (bW [17] .done))) (bF w []) mixed (by kernel_rfl) (fun _ h=>h.drew) (fun _ h=>h)<|ac I I<|ac I I<|bI I I<|bd I I<|dc I I (fun _ h=>h.cell (by assumption))<|ac I I<|eP (lo m a) I I I I eA<|dc I I (fun _ h=>h.cell Q0)<|ac I I<|bI I I<|bd I I<|dc I I (fun _ h=>h.cell (by assumption))<|ac I I<|eP (lo m b) I I I I yk<|dc I I (fun _ h=>h.cell hO)<|b1 I I I (bm (by omega))<|bJ I I I I (fun w hw=>E2 g m _ _ hm (hw.a7 aI)) (fun _ h=>h)<|ak I I<|U.next<|J.ret<|al.ret Tryz.results198 I (fun w hw=>⟨by rw[oneOf,←am5 hm ad ag],hw⟩)
def two(a b:aV):aV:=.tuple #[a,b]
theorem aqp(g m:Nat)(a:Int)(w:ao)(hm:Ok m)(aI:Has (fL g m) w)(aB:lo m a≠0):cC Tryz.prog 373 [.pointer (some ⟨g,0,none⟩),.int .i64 a] w (two (.int .i64 (hZ m (lo m a):Nat)) .nilIface):=by
 obtain⟨ge,e5,eH⟩:=xF aI;have aG:=gS hm;have fU:=eH.xJ;have cF:=eH.WT;have eA:=I3 m a;have Q0:=RM eH (a:=a) (by omega);exact b8 Tryz.func373 I Tryz.ntmps373 I<|J.aw 2 I<|ak I I<|ak I I<|U.next<|J.seq<|J.aw 4 I<|ac I I<|ac I I<|bJ I I I I (fun w hw=>G0 g m _ _ hm (hw.a7 aI)) aJ<|ak I I<|U.bl 2 I<|ac I I<|gy I I I (df (by omega))<|U.next<|J.dy I<|J.skip<|al.code<|J.aw 9 I<|ac I I<|bI I I<|bd I I<|c5 I I (fun _ h=>h.cell (by assumption))<|ac I I<|eP (lo m a) I I I I eA<|c5 I I (fun _ h=>h.cell Q0)<|ak I I<|ak I I<|U.next<|J.ret<|al.ret Tryz.results373 I (fun w hw=>⟨I,hw.nothing⟩)
theorem aj7{m:Nat}(h:Ok m)(x:Nat):ba m (ex m (em m (-(x:Nat)))) (ex m x)=1:=by
 have aG:=gS h;rw[wF h,←ac9 m,acQ h];have aa:=ng (-(x:Int)) (b:=((N m:Nat):Int)) (by omega);have ab:((em m (-(x:Nat))+x:Nat):Int)%((N m:Nat):Int)=0:=by
  unfold em;rw[IY,Fb aa,Int.emod_add_emod,Int.add_left_neg,Int.zero_emod]
 rw[Nat.zero_mod];omega
noncomputable def inv(m x:Nat):Nat:=ex m (em m (-(hZ m x:Nat)))
theorem ph{m:Nat}(h:Ok m)(x:Nat):inv m x<2^m:=(ns h _).2
theorem EE{m:Nat}(h:Ok m){x:Nat}(af:x<2^m)(aB:x≠0):ba m x (inv m x)=1:=by
 have:=aj7 h (hZ m x);rw[(BH h (by omega) af).2] at this;rw[kH h af (ph h x)];exact this
theorem af2(g m:Nat)(a:Int)(w:ao)(hm:Ok m)(aI:Has (fL g m) w)(aB:lo m a≠0):cC Tryz.prog 295 [.pointer (some ⟨g,0,none⟩),.int .i64 a] w (two (.int .i64 (inv m (lo m a):Nat)) .nilIface):=by
 obtain⟨ge,e5,eH⟩:=xF aI;have aG:=gS hm;have fU:=eH.xJ;have Du:=ML hm (x:=lo m a) (by omega) (lJ m a);exact b8 Tryz.func295 I Tryz.ntmps295 I<|J.aw 2 I<|ak I I<|ak I I<|U.bl 8 I<|ac I I<|ac I I<|bJ I I I I (fun w hw=>aqp g m _ _ hm (hw.a7 aI) aB) aJ<|ac I I<|cB I I I<|cB I I I<|ak I I<|ak I I<|U.next<|J.seq<|J.aw 2 I<|ac I I<|jl I I<|U.next<|J.dy I<|J.skip<|al.code<|J.aw 6 I<|ac I I<|ac I I<|Rw I I (r:= -((hZ m (lo m a):Nat):Int)) (by rw[Int.zero_sub];exact bm (by omega))<|bJ I I I I (fun w hw=>E2 g m _ _ hm (hw.a7 aI)) aJ<|ak I I<|ak I I<|U.next<|J.ret<|al.ret Tryz.results295 I (fun w hw=>⟨I,hw.nothing⟩)
theorem aqO(g m:Nat)(a b:Int)(w:ao)(hm:Ok m)(aI:Has (fL g m) w)(aB:lo m b≠0):cC Tryz.prog 205 [.pointer (some ⟨g,0,none⟩),.int .i64 a,.int .i64 b] w (two (.int .i64 (ba m (lo m a) (inv m (lo m b)):Nat)) .nilIface):=by
 exact b8 Tryz.func205 I Tryz.ntmps205 I<|J.aw 2 I<|ak I I<|ak I I<|U.bl 8 I<|ac I I<|ac I I<|bJ I I I I (fun w hw=>af2 g m _ _ hm (hw.a7 aI) aB) aJ<|ac I I<|cB I I I<|cB I I I<|ak I I<|ak I I<|U.next<|J.seq<|J.aw 2 I<|ac I I<|jl I I<|U.next<|J.dy I<|J.skip<|al.code<|J.aw 6 I<|ac I I<|ac I I<|ac I I<|bJ I I I I (v:=.int .i64 (ba m (lo m a) (inv m (lo m b)):Nat)) (fun w hw=>by have:=Cx g m a (inv m (lo m b):Nat) w hm (hw.a7 aI);rw[hC (ph hm _)] at this;exact this) aJ<|ak I I<|ak I I<|U.next<|J.ret<|al.ret Tryz.results205 I (fun w hw=>⟨I,hw.nothing⟩)
theorem Gj{m:Nat}{x y:Int}(h:x%((N m:Nat):Int)=y%((N m:Nat):Int)):em m x=em m y:=by unfold em;rw[h]
theorem ajx(n k:Int):n.tmod k%k=n%k:=by
 rw[D0];split
 ·rw[show((0:Nat):Int)=0 from rfl,Int.sub_zero,G6]
 ·rw[Bi,G6];have:(k.natAbs:Int)%k=0:=Int.emod_eq_zero_of_dvd (Int.dvd_natAbs.2 (Pe k));rw[this,Int.sub_zero,G6]
theorem VQ{m:Nat}(h:Ok m)(n:Int): -16383≤n.tmod ((N m:Nat):Int)∧n.tmod ((N m:Nat):Int)≤16383:=by
 have aG:=gS h;have aa:=ng n (b:=((N m:Nat):Int)) (by omega);have ab:=tV n (b:=((N m:Nat):Int)) (by omega);rw[D0];split<;>omega
noncomputable def tC(m x:Nat)(n:Int):Nat:=if x=0 then(if n=0 then 1 else 0) else ex m (em m ((hZ m x:Nat)*n))
theorem WG{m:Nat}{a:Int}(aB:lo m a=0)(n:Int):tC m (lo m a) n=if n=0 then 1 else 0:=by unfold tC;rw[if_pos aB]
noncomputable def ord(m x:Nat):Nat:=N m/ Nat.gcd (N m) (hZ m x)
structure D3(m p2:Nat)(g:Nat×Nat):Prop where
 pos:0<g.1
 le:g.1≤16383∧g.2≤16383
 gcd:Nat.gcd g.1 g.2=Nat.gcd (N m) (hZ m p2)
theorem D3.next{m p2:Nat}{g:Nat×Nat}(h:D3 m p2 g)(aF:0<g.2):D3 m p2 (g.2,g.1%g.2):=
 ⟨aF,⟨h.le.2,Nat.le_of_lt (h6 (fV _ aF) h.le.2)⟩,by show Nat.gcd g.2 (g.1%g.2)=_;rw[←h.gcd,Nat.gcd_comm g.1 g.2,Nat.gcd_rec g.2 g.1,Nat.gcd_comm]⟩
theorem D3.last{m p2:Nat}{g:Nat×Nat}(h:D3 m p2 g)(aF:¬(0:Int)<(g.2:Nat)):((N m:Nat):Int).tdiv ((g.1:Nat):Int)=(ord m p2:Nat):=by
 have ab:g.2=0:=by omega
 have:=h.gcd;rw[ab,Nat.gcd_zero_right] at this;unfold ord;rw[←this];rfl
def Lz(m:Nat):Nat→Nat→Nat
 |0,x=>x
 |k+1,x=>ba m (Lz m k x) (Lz m k x)
def Zu(m:Nat):Nat→Nat→Nat
 |0,_=>0
 |k+1,x=>Zu m k x^^^Lz m k x
def cI(m x:Nat):Nat:=Zu m m x
theorem zC{m:Nat}(h:Ok m){x:Nat}(af:x<2^m):x<2^63:=Nat.lt_of_lt_of_le af (Nat.pow_le_pow_right (by omega) (by have:=h.hi;omega))
end Go.Proofs.YtcgjepodnfjggaaGreatDoor
end
section
namespace Go.Proofs.YtcgjepodnfjggaaGreatDoor
open Go.a6 Go.ChangeShapes Go.WideShapes Go.RowKit
theorem J9:laidOutB Tryz.prog=true:=by kernel_rfl
theorem Yn: "*" ++ "errors.errorString" = "*errors.errorString" :=by decide
theorem alv(u:aO)(h:Tryz.prog.typeName? 3 u=some "*errors.errorString"):u=601:=
 typeName_ptr_named (nm:= "errors.errorString") (by rw[Yn];kernel_rfl) (by kernel_rfl) (by decide) u (by rw[Yn];exact h)
theorem arH:Tryz.prog.cellsOf 618=1:=by kernel_rfl
theorem apn:Tryz.prog.cellsOf 9=1:=by kernel_rfl
theorem afc:ownKnob Tryz.prog.godebug=none:=by kernel_rfl
noncomputable def qj(W:ao)(k:Nat):Addr:=open Classical in if h:∃a,W.cell? ⟨k,0,none⟩=some (.iface 601 (.pointer (some a))) then Classical.choose h else default
theorem aoZ{W:ao}{k:Nat}(h:∃a,W.cell? ⟨k,0,none⟩=some (.iface 601 (.pointer (some a)))):gI (qj W) W k:=by
 unfold gI mJ qj;rw[dif_pos h];exact Tb h
theorem aiX{w ar:ao}(h:bF w [] ar):Below w.heap.size w ar:=h.b6.below
end Go.Proofs.YtcgjepodnfjggaaGreatDoor
end
section
namespace Go.a6
open Go
class avh (P:a8) (T:aO):Prop where
 under:P.underlying T=some .bool
class io (P:a8) (T:aO) (n:outParam Nat):Prop where
 agg:∀w,(isAgg T).run P w=.ok true w
 size:∀w,(sizeOf T).run P w=.ok n w
theorem io.mk'{P:a8}{T n:Nat}{d:TypeDesc}(cE:P.underlying T=some d)(aW:wJ d=true)(hi:(P.info? T).map (·.size)=some n):io P T n:=by
 obtain⟨i,hi,aq⟩:=q5 hi;refine⟨fun w=>?_,fun w=>?_⟩
 ·simp only[isAgg,Sem.run_bind,run_underlying cE,Result.andThen_ok];cases d<;>first|rfl|(cases aW;done)
 ·simp only[sizeOf,Sem.run_bind,mf hi,Sem.run_pure,Result.andThen_ok,aq]
class S9 (P:a8) (T:aO):Prop where
 under:∃o2 j i,P.underlying T=some (.pointer o2)∧P.info? o2=some j∧j.size≠0∧P.info? T=some i∧i.comparable=true
theorem S9.mk'{P:a8}{T o2:aO}(cE:P.underlying T=some (.pointer o2))(ax:(P.info? o2).map (fun i=>i.size==0)=some false)(hi:(P.info? T).map (·.comparable)=some true):S9 P T:=by
 obtain⟨i,aa,ab⟩:=q5 hi;obtain⟨j,an,aK⟩:=q5 ax;exact⟨o2,j,i,cE,an,by simpa using aK,aa,ab⟩
section
variable{P:a8}{w:ao}
theorem W2{T n g o:Nat}{cs:cw}[aa:io P T n](aQ:cs.length=n)(ag:∀j v,cs[j]?=some v→w.cell? ⟨g,o+j,none⟩=some v):
  (loadVar T ⟨g,o,none⟩).run P w=.ok (.agg cs.toArray) w:=by
 have bc:(loadCells ⟨g,o,none⟩ n).run P w=.ok cs.toArray w:=by
  rw[←aQ];exact run_loadCells_list (P:=P) w ⟨g,o,none⟩ cs (fun j v br=>by rw[lB];exact ag j v br)
 simp only[loadVar,Sem.run_bind,aa.agg,Result.andThen_ok,jU,aa.size,bc];simp
theorem Hi{T n g o:Nat}{cs:cw}[aa:io P T n](aQ:cs.length=n)(ag:∀j v,cs[j]?=some v→w.cell? ⟨g,o+j,none⟩=some v):
  (Instr.loadAt T (.pointer (some ⟨g,o,none⟩))).run P w=.ok (.agg cs.toArray) w:=by
 simp only[Instr.loadAt,Instr.sureAddr,Sem.run_bind,Sem.run_pure,Result.andThen_ok,W2 aQ ag]
end
section
variable{P:a8}{ops:Array Oper}{S:ao→Prop}{K:Act→ao→Prop}{p:eR}{n:Nat}{l:List (Nat×aV)}{C:ao→Prop}{fl:Bool}{i:Nat}{ty dr dk tR:aO}{x y z:bf}
variable{F:Nat→Prop}{w₀:ao}{L dv:List bi}
def Live(a:Addr)(w:ao):Prop:=∃c t,w.heap[a.block]?=some (.cells c t (0,0))
theorem pj{d m g o:Nat}{cs:cw}(av:cG ops n l i=some (some d,.load ty x,dk))[io P ty m](af:bk l x=some (.pointer (some ⟨g,o,none⟩)))(aQ:cs.length=m)(ag:∀w,C w→∀j v,cs[j]?=some v→w.cell? ⟨g,o+j,none⟩=some v)
  (h:U P ops S K p n ((d,.agg cs.toArray)::l) C):U P ops S K (.bB false i p) n l C:=
 U.val av (fun a w o he _ aq aa _=>by simp only[execOp,aa,he.bk af,Sem.run_bind,Hi aQ (ag w (aq rfl)),Result.andThen_ok,Sem.run_pure]) h
theorem PG{d m g o:Nat}{cs:cw}(av:cG ops n l i=some (some d,.load ty x,dk))[io P ty m](af:bk l x=some (.pointer (some ⟨g,o,none⟩)))(aQ:cs.length=m)(ag:∀w,S w→∀j v,cs[j]?=some v→w.cell? ⟨g,o+j,none⟩=some v)
  (h:U P ops S K p n ((d,.agg cs.toArray)::l) C):U P ops S K (.bB true i p) n l C:=
 U.val av (fun a w o he aq _ aa _=>by simp only[execOp,aa,he.bk af,Sem.run_bind,Hi aQ (ag w (aq rfl)),Result.andThen_ok,Sem.run_pure]) h
theorem au.L4{i g T:Nat}{cs:cJ}{w:ao}(hi:L[i]?=some (aE g T cs))(h:au F w₀ L w):∀j v,cs.toList[j]?=some v→w.cell? ⟨g,0+j,none⟩=some v:=by
 intro j v ax;rw[iO];exact h.cP hi (by simpa using ax)
theorem ie{d:Nat}(q:Nat){g T:Nat}{cs:cJ}(hi:L[q]?=some (aE g T cs))(av:cG ops n l i=some (some d,.load ty x,dk))[io P ty cs.size](af:bk l x=some (.pointer (some ⟨g,0,none⟩)))
  (h:U P ops S K p n ((d,.agg cs)::l) (au F w₀ L)):U P ops S K (.bB false i p) n l (au F w₀ L):=
 pj (cs:=cs.toList) av af (by simp) (fun w hw=>hw.L4 hi) (by simpa using h)
end
def HT(P:a8)(l:List (Nat×aV))(w:ao):List ResultVar→cw→Prop
 |[],[]=>True
 |.tmp t::r,v::vs=>j4 t l=some v∧HT P l w r vs
 |.cell b t::r,v::vs=>(∃a,j4 b l=some (.pointer (some a))∧(loadVar t a).run P w=.ok v w)∧HT P l w r vs
 |_,_=>False
theorem Ra{P:a8}{n:Nat}{l:List (Nat×aV)}{a:Act}{w:ao}(he:Env n l a):∀(rs:List ResultVar) (vs:cw),HT P l w rs vs→(rs.mapM (rY a)).run P w=.ok vs w
 |[],[],_=>rfl
 |.tmp t::r,v::vs,h=>by
  have br:a.tmps.getD t undef=v:=he.bk (x:=.tmp t) h.1;simp only[C4,rY,br,Sem.run_bind,Ra he r vs h.2,Sem.run_pure,Result.andThen_ok]
 |.cell b t::r,v::vs,⟨⟨qI,aa,ab⟩,an⟩=>by
  have br:a.tmps.getD b undef=.pointer (some qI):=he.bk (x:=.tmp b) aa;simp only[C4,rY,br,asAddr,Sem.run_bind,Ra he r vs an,Sem.run_pure,Result.andThen_ok,ab]
 |[],_::_,h=>h.elim
 |.tmp _::_,[],h=>h.elim
 |.cell _ _::_,[],h=>h.elim
theorem al.nu{P:a8}{n:Nat}{l:List (Nat×aV)}{C:ao→Prop}{fn:Func}{R:Ending→ao→Prop}{rs:List ResultVar}(aH:fn.results=rs.toArray)(h:∀w,C w→∃vs,HT P l w rs vs∧R (.returned (oneOf vs)) w):al P (xP fn R P) [] n l C:=by
 refine⟨fun a w he ag=>?_⟩;obtain⟨vs,aa,cy⟩:=h w ag;refine⟨he.defers,_,?_,cy⟩;have aa:=Ra (P:=P) (w:=w) he rs vs aa;have ab:results fn a.tmps=(do let vs ←fn.results.mapM (rY a);Pure.pure (if h:vs.size=1 then vs[0] else .tuple vs)):=by
  unfold results;congr 1
 rw[ab,aH,Kt];simp only[Sem.run_bind,Sem.run_map,aa,Sem.run_pure,Result.andThen_ok];congr 1
 match vs with
 |[]=>rfl
 |[v]=>rfl
 |u::v::r=>
  rw[dif_neg (by simp)];rfl
section
variable{P:a8}{F:Nat→Prop}{w₀ w:ao}{L:List bi}
theorem au.nO{q g T ty m:Nat}{cs:cJ}[io P ty m](hi:L[q]?=some (aE g T cs))(hm:cs.size=m)(h:au F w₀ L w):(loadVar ty ⟨g,0,none⟩).run P w=.ok (.agg cs) w:=by
 have:=W2 (P:=P) (T:=ty) (cs:=cs.toList) (by simpa using hm) (h.L4 hi);simpa using this
end
def Di:aV→Bool
 |.tuple a=>a.isEmpty
 |_=>false
def TW(ops:Array Oper)(n:Nat)(l:List (Nat×aV))(i:Nat):Option (eu):=
 match ops[i]? with
 |some o=>match o.guard with
  |some (j,_)=>match(ops[j]?).bind (·.dst) with
   |some d=>match j4 d l with
    |some v=>bif Di v&&nA n o.dst then some o.dst else none
    |none=>none
   |none=>none
  |none=>none
 |none=>none
theorem apv{v:aV}(h:Di v=true):v=undef:=by
 cases v<;>simp_all [Di,undef]
theorem U.By{P:a8}{ops:Array Oper}{S:ao→Prop}{K:Act→ao→Prop}{p:eR}{n:Nat}{l:List (Nat×aV)}{C:ao→Prop}{fl:Bool}{i:Nat}{d:eu}(av:TW ops n l i=some d)(h:U P ops S K p n (uO d undef l) C):U P ops S K (.bB fl i p) n l C:=by
 refine⟨fun a w he ag aq=>?_⟩;unfold TW at av;split at av
 ·rename_i o gb;split at av
  ·rename_i j want bg;split at av
   ·rename_i GF aW;split at av
    ·rename_i v br;by_cases ad:(Di v&&nA n o.dst)=true
     ·rw[ad] at av;simp only[cp,eb] at av;subst av;rw[b7] at ad;have hu:=apv ad.1;subst hu;have aQ:=h.run _ w (he.nD ad.2 undef) ag aq;have ab:((ops[j]?.bind fun x=>x.dst).bind fun x=>a.tmps[x]?)=some undef:=by rw[aW];exact he.at_ _ _ br
      have an:yielded ops a.tmps j=none:=by simp only[yielded,ab,undef]
      have aK:Region.wanted o (yielded ops a.tmps)=false:=by
       unfold Region.wanted;rw[bg];simp only[an];cases want<;>rfl
      simp only[je,gb,aK];simpa using aQ
     ·have:(Di v&&nA n o.dst)=false:=by simpa using ad
      rw[this] at av;cases av
    ·cases av
   ·cases av
  ·cases av
 ·cases av
section
variable{P:a8}{ops:Array Oper}{S:ao→Prop}{K:Act→ao→Prop}{p:eR}{n:Nat}{l:List (Nat×aV)}{C:ao→Prop}{fl:Bool}{i:Nat}{iJ at_ dk:aO}{x:bf}
end
end Go.a6
end
section
namespace Go.Proofs.YtcgjepodnfjggaaGreatDoor
open Go.a6
set_option maxRecDepth 100000
instance:io Tryz.prog 23 6:=io.mk' Tryz.underlying23 rfl (by kernel_rfl)
instance:io Tryz.prog 28 9:=io.mk' Tryz.underlying28 rfl (by kernel_rfl)
instance:io Tryz.prog 38 2:=io.mk' Tryz.underlying38 rfl (by kernel_rfl)
instance:io Tryz.prog 43 5:=io.mk' Tryz.underlying43 rfl (by kernel_rfl)
instance:io Tryz.prog 48 9:=io.mk' Tryz.underlying48 rfl (by kernel_rfl)
instance:io Tryz.prog 87 2:=io.mk' Tryz.underlying87 rfl (by kernel_rfl)
instance:io Tryz.prog 98 3:=io.mk' Tryz.underlying98 rfl (by kernel_rfl)
instance:io Tryz.prog 115 5:=io.mk' Tryz.underlying115 rfl (by kernel_rfl)
instance:io Tryz.prog 339 3:=io.mk' Tryz.underlying339 rfl (by kernel_rfl)
end Go.Proofs.YtcgjepodnfjggaaGreatDoor
end
section
namespace Go.Proofs.YtcgjepodnfjggaaGreatDoor
open Go.a6
def lF(e:Nat→Addr)(kh:ae):bi where
 ok w D:=(∀k∈kh,D k∧D (e k).block∧w.cell? ⟨k,0,none⟩=some (mJ e k)∧Live (e k) w)∧∀i∈kh,∀j∈kh,i≠j→e i≠e j
 loc:=by
  rintro w ar D ⟨aa,ab⟩ ad
  refine⟨fun k ah=>?_,ab⟩
  obtain⟨a,b,c,QD,t,d⟩:=aa k ah
  exact⟨a,b,(World.cell?_of_block (ad _ a)).trans c,QD,t,by rw[ad _ b];exact d⟩
section
variable{e:Nat→Addr}{kh:ae}{w:ao}
theorem _root_.Go.a6.Has.jt(h:Has (lF e kh) w){k:Nat}(ah:k∈kh):gI e w k:=let ⟨_,⟨aa,_⟩,_⟩:=h;(aa k ah).2.2.1
theorem _root_.Go.a6.Has.live(h:Has (lF e kh) w){k:Nat}(ah:k∈kh):Live (e k) w:=let ⟨_,⟨aa,_⟩,_⟩:=h;(aa k ah).2.2.2
theorem _root_.Go.a6.Has.apart(h:Has (lF e kh) w){i j:Nat}(hi:i∈kh)(ax:j∈kh)(e7:i≠j):e i≠e j:=let ⟨_,⟨_,ab⟩,_⟩:=h;ab i hi j ax e7
theorem _root_.Go.a6.Has.ah3(h:Has (lF e kh) w){WK:ae}(aq:∀k∈WK,k∈kh):Has (lF e WK) w:=
 let ⟨D,⟨aa,ab⟩,an⟩:=h
 ⟨D,⟨fun k ah=>aa k (aq k ah),fun i hi j ax=>ab i (aq i hi) j (aq j ax)⟩,an⟩
end
def pE:ae:=[14,3,16,8,9,10,0,1,4,11,5,17,15,12,12,2,13,6,7]
end Go.Proofs.YtcgjepodnfjggaaGreatDoor
end
section
namespace Go.Proofs.YtcgjepodnfjggaaGreatDoor
open Go.a6 Go.ChangeShapes Go.WideShapes Go.RowKit
def Qt:List (String×DataW Unit)→ae→Prop
 |[],[]=>True
 |(n,d)::l,k::kh=>(∃text,d=.iface "*errors.errorString" (.ptr (.agg [.lit (.string text)])))∧Tryz.prog.globalNamed n=some k∧(Tryz.prog.globals[k]?).map (·.type)=some 32∧Qt l kh
 |[],_::_=>False
 |_::_,[]=>False
theorem arz(a:Addr):MemPlace.row a 1=[MemPlace.cell a.block a.off]:=by simp[MemPlace.row]
set_option maxRecDepth 100000 in
theorem ZD{W:ao}:∀{l:List (String×DataW Unit)} {kh:ae} {ps:List MemPlace},DataW.LaidVars Tryz.prog W l ps→Qt l kh→
  (∀b off,MemPlace.cell b off∈ps→(∃c t,W.heap[b]?=some (.cells c t (0,0)))∧∀u v,W.cell? ⟨b,off,none⟩=some (.iface u v)→Value.okWide Tryz.prog W .any 0 u v)→ps.Nodup→
  (∀k∈kh,gI (qj W) W k∧Live (qj W k) W∧MemPlace.cell (qj W k).block (qj W k).off∈ps)∧kh.Pairwise (fun i j=>qj W i≠qj W j)
 |[],[],_,_,_,_,_=>⟨fun _ h=>by simp at h,List.Pairwise.nil⟩
 |(n,d)::l,k::kh,ps,bc,ah,O4,aQ=>by
  obtain⟨⟨text,aW⟩,ka,jx,Fc⟩:=ah;obtain⟨g,t,cs,ln,p,q,bg,apD,br,xA,aH,iN⟩:=bc;subst aW;obtain rfl:=er (ka.symm.trans bg);obtain rfl:=er (jx.symm.trans apD);obtain⟨jY⟩:=cs;have adH:∀u v,jY=[.iface u v]→Value.okWide Tryz.prog W .any 0 u v:=fun u v e=>by
   subst e;exact(O4 k 0 (by rw[iN];simp[MemPlace.row])).2 u v (by simpa using World.var?_cell bg br 0)
  obtain⟨a,s,rfl,Bf,Gq,acx,RE⟩:=errorString_of_trod Tryz.underlying32 alv Tryz.underlying601 Tryz.underlying618 rfl rfl Tryz.underlying9 arH apn xA adH;have ag:W.cell? ⟨k,0,none⟩=some (.iface 601 (.pointer (some a))):=by simpa using World.var?_cell bg br 0
  have he:gI (qj W) W k:=aoZ ⟨a,ag⟩;have aj:qj W k=a:=by
   have ab:=he.symm.trans ag;simp only[mJ,eb,Value.iface.injEq,Value.pointer.injEq,true_and] at ab;exact ab
  have aG:MemPlace.cell a.block a.off∈p:=by rw[RE,arz];exact hK.2 I
  have Hj:MemPlace.cell a.block a.off∈ps:=by rw[iN];exact Hs _ (A7 _ aG)
  have eX:(MemPlace.row ⟨k,0,none⟩ (List.toArray [Value.iface 601 (.pointer (some a))]).size++p++q).Nodup:=by rw[←iN];exact aQ
  rw[Q8] at eX;obtain⟨aa,ab⟩:=ZD (W:=W) aH Fc (fun b off ad=>O4 b off (by rw[iN];exact A7 _ ad)) eX.2.1;refine⟨fun j ax=>?_,List.Pairwise.cons (fun j ax ato=>?_) ab⟩
  ·rcases ei.1 ax with rfl|ax
   ·exact⟨he,by rw[aj];exact(O4 _ _ Hj).1,by rw[aj];exact Hj⟩
   ·obtain⟨jf,jo,oE⟩:=aa j ax;exact⟨jf,jo,by rw[iN];exact A7 _ oE⟩
  ·obtain⟨_,_,oE⟩:=aa j ax;rw[←ato,aj] at oE;exact eX.2.2 _ (A7 _ aG) _ oE I
 |[],_::_,_,_,h,_,_=>h.elim
 |_::_,[],_,_,h,_,_=>h.elim
theorem World.am3{W:ao}{b:Nat}{c:cJ}{t:aO}(h:W.heap[b]?=some (.cells c t (0,0))):b<W.heap.size:=by
 obtain⟨aa,_⟩:=vP.1 h;exact aa
theorem YP{R:Nat→Nat→Prop}(aq:∀x y,R x y→R y x):∀{l:ae},l.Pairwise R→∀x∈l,∀y∈l,x≠y→R x y
 |[],_,_,af,_,_,_=>by simp at af
 |a::l,h,x,af,y,aF,e7=>by
  obtain⟨aa,ab⟩:=List.pairwise_cons.1 h;rcases ei.1 af with rfl|af
  ·rcases ei.1 aF with rfl|aF
   ·exact absurd I e7
   ·exact aa y aF
  ·rcases ei.1 aF with aF|aF
   ·rw[aF];exact aq _ _ (aa x af)
   ·exact YP aq ab x af y aF e7
theorem aed{W:ao}{l:List (String×DataW Unit)}{kh:ae}(h:laidMet Tryz.prog l W)(ah:Qt l kh):Has (lF (qj W) kh) W:=by
 obtain⟨ps,aa,ab,an⟩:=h;obtain⟨k1,k2⟩:=ZD aa ah an ab;refine⟨fun b=>b<W.heap.size,⟨fun k ah=>?_,?_⟩,fun _ ad=>ad⟩
 ·obtain⟨jf,⟨c,t,jo⟩,_⟩:=k1 k ah;exact⟨World.block_lt_of_cell? W _ jf,World.am3 jo,jf,c,t,jo⟩
 ·intro i hi j ax e7;exact YP (fun _ _ h he=>h he.symm) k2 i hi j ax e7
end Go.Proofs.YtcgjepodnfjggaaGreatDoor
end
section
namespace Go.Proofs.YtcgjepodnfjggaaGreatDoor
open Go Go.a6
def x3(x:Nat):Nat:=x/ 2+((x%2+x/ 4%2+x/ 8%2+x/ 32%2)%2)*32768
def uV(x:Nat):Nat→Nat
 |0=>x
 |i+1=>x3 (uV x i)
def p9(x:Nat):Nat→Nat
 |0=>0
 |i+1=>p9 x i+2^i*(uV x i%2)
def sw(x:Nat):Nat:=uV x 8
def fC(x:Nat):ae→ae
 |[]=>[]
 |c::r=>(c^^^p9 x 8)::fC (sw x) r
def hl(aaF:Nat):Nat:=if aaF%65536=0 then 0xACE1 else aaF%65536
theorem ad1{x:Nat}(h:x<65536):x3 x<65536:=by
 unfold x3;have:(x%2+x/ 4%2+x/ 8%2+x/ 32%2)%2<2:=fV _ (by decide);omega
theorem K8{x:Nat}(h:x<65536):∀i,uV x i<65536
 |0=>h
 |i+1=>ad1 (K8 h i)
theorem Jw(x:Nat):∀i,p9 x i<2^i
 |0=>Nat.one_pos
 |i+1=>by
  have aa:=Jw x i;have ab:uV x i%2<2:=fV _ (by decide);have an:2^i*(uV x i%2)≤2^i*1:=ID _ (by omega);simp only[p9,x4];omega
theorem r9:∀(x:Nat) (l:ae),(fC x l).length=l.length
 |_,[]=>rfl
 |x,_::r=>by simp only[fC,iG,r9 (sw x) r]
theorem MT:∀(x:Nat) (l:ae),fC x (fC x l)=l
 |_,[]=>rfl
 |x,c::r=>by simp only[fC,MT (sw x) r,h5,jy,eS]
theorem NS:∀(x:Nat) (l:ae),(∀c∈l,c<256)→∀c∈fC x l,c<256
 |_,[],_,c,h=>by cases h
 |x,y::r,bc,c,h=>by
  rcases ei.1 h with rfl|h
  ·exact mR (n:=8) (bc y (by simp)) (Jw x 8)
  ·exact NS (sw x) r (fun z aL=>bc z (eQ _ aL)) c h
def mw(x:Nat):Nat→Nat
 |0=>x
 |i+1=>sw (mw x i)
theorem aaX{x:Nat}(h:x<65536):∀i,mw x i<65536
 |0=>h
 |i+1=>K8 (aaX h i) 8
theorem WS(x:Nat):∀i,mw (sw x) i=mw x (i+1)
 |0=>rfl
 |i+1=>by show sw (mw (sw x) i)=sw (mw x (i+1));rw[WS x i]
theorem aaZ:∀(l:ae) (x i:Nat),(fC x l)[i]?=(l[i]?).map (· ^^^p9 (mw x i) 8)
 |[],_,_=>by simp[fC]
 |c::r,x,0=>rfl
 |c::r,x,i+1=>by simp only[fC,P8,aaZ r (sw x) i,WS]
def oU(x:Nat)(l:ae)(i:Nat):ae:=(fC x l).take i++l.drop i
theorem Zz(x:Nat)(l:ae)(i:Nat):(oU x l i).length=l.length:=by
 simp only[oU,ee,fW,qV,r9];omega
theorem PC{x:Nat}{l:ae}{i j:Nat}(h:i≤l.length):(oU x l i)[j]?=if j<i then(fC x l)[j]? else l[j]?:=by
 unfold oU;by_cases ax:j<i
 ·rw[aD ax,nE (by rw[fW,r9];omega),mj,aD ax]
 ·rw[az ax,mg (by rw[fW,r9];omega),wQ,fW,r9];congr 1;omega
theorem Z3{x:Nat}{l:ae}{i:Nat}(h:i<l.length):(oU x l i).set i (l.getD i 0^^^p9 (mw x i) 8)=oU x l (i+1):=by
 apply jB;intro j;rw[rG,PC (by omega),PC (by omega),Zz];by_cases kN:i=j
 ·subst kN;rw[aD rfl,aD h,aD (by omega),aaZ,eM,eF h];rfl
 ·rw[az kN];by_cases ax:j<i
  ·rw[aD ax,aD (by omega)]
  ·rw[az ax,az (by omega)]
theorem ait(x:Nat)(l:ae):oU x l l.length=fC x l:=by
 simp only[oU,Oj,nK];rw[←r9 x l,m4]
def rA(n:Int):Nat:=(min (max n 0) 1073741824).toNat
def ib(b k:Int):Nat:=(1+257*rA b+31*rA k)%65536
theorem agI(s:Nat):hl s<65536:=by unfold hl;split<;>omega
def Ej(x:Nat):Nat:=x/ 2^^^(if x%2=1 then 0xEDB88320 else 0)
def AS(x:Nat):Nat→Nat
 |0=>x
 |i+1=>Ej (AS x i)
def sb(x c:Nat):Nat:=AS (x^^^c) 8
def fz(l:ae):Nat:=(l.foldl sb 0xFFFFFFFF)^^^0xFFFFFFFF
theorem aeS{x:Nat}(h:x<2^32):Ej x<2^32:=by
 unfold Ej;refine mR (by omega) ?_;split<;>decide
theorem Rz{x:Nat}(h:x<2^32):∀i,AS x i<2^32
 |0=>h
 |i+1=>aeS (Rz h i)
theorem adM{x c:Nat}(h:x<2^32)(ag:c<256):sb x c<2^32:=Rz (Nat.xor_lt_two_pow h (Nat.lt_trans ag (by decide))) 8
theorem JS:∀(l:ae) {x:Nat},x<2^32→(∀c∈l,c<256)→l.foldl sb x<2^32
 |[],_,h,_=>h
 |c::r,_,h,bc=>JS r (adM h (bc c (by simp))) (fun z aL=>bc z (eQ _ aL))
theorem I7{l:ae}(bc:∀c∈l,c<256):fz l<2^32:=Nat.xor_lt_two_pow (JS l (by decide) bc) (by decide)
def fQ(n:Nat):ae:=[n%256,n/ 256%256,n/ 65536%256,n/ 16777216%256]
def hS(l:ae)(i:Nat):Nat:=l.getD i 0+256*l.getD (i+1) 0+65536*l.getD (i+2) 0+16777216*l.getD (i+3) 0
def qk:ae→ae
 |[]=>[]
 |n::r=>fQ n++qk r
theorem H5(n:Nat):∀c∈fQ n,c<256:=by
 intro c ag;simp only[fQ,ei,we,or_false] at ag;rcases ag with rfl|rfl|rfl|rfl<;>exact fV _ (by decide)
theorem V2:∀(l:ae),(qk l).length=4*l.length
 |[]=>rfl
 |n::r=>by simp only[qk,ee,V2 r,iG,fQ,A0];omega
theorem ZS:∀(l:ae),∀c∈qk l,c<256
 |[],c,h=>by cases h
 |n::r,c,h=>by
  rcases hI.1 h with h|h
  ·exact H5 n c h
  ·exact ZS r c h
theorem Ya{n:Nat}(h:n<2^32)(l:ae):hS (fQ n++l) 0=n:=by
 simp only[hS,fQ,u9,uI,PD,N4];omega
theorem Yf(a l:ae)(i:Nat):hS (a++l) (a.length+i)=hS l i:=by
 have h:∀k,(a++l).getD (a.length+i+k) 0=l.getD (i+k) 0:=fun k=>by
  rw[eM,eM,mg (by omega)];congr 2;omega
 have aB:=h 0;have aa:=h 1;have ab:=h 2;have an:=h 3;simp only[wW] at aB;simp only[hS,aB,aa,ab,an]
theorem Zq:∀(l:ae) (i:Nat) (r:ae),i<l.length→(∀n∈l,n<2^32)→hS (qk l++r) (4*i)=l.getD i 0
 |[],_,_,h,_=>by simp at h
 |n::l,0,r,_,bc=>by
  simp only[qk,rZ,JD,PD];exact Ya (bc n (by simp)) _
 |n::l,i+1,r,h,bc=>by
  simp only[qk,rZ,N4];have e:4*(i+1)=(fQ n).length+4*i:=by simp only[fQ,iG,A0];omega
  rw[e,Yf];exact Zq l i r (by simpa using h) (fun z aL=>bc z (eQ _ aL))
end Go.Proofs.YtcgjepodnfjggaaGreatDoor
end
section
namespace Go.a6
open Go
theorem tr{x:Nat}(h:x<256):IntKind.u8.wrap (x:Int)=x:=by
 simp only[IntKind.wrap,IntKind.signed,IntKind.bits];simp;omega
theorem EG(x:Nat):IntKind.u8.wrap (x:Int)=((x%256:Nat):Int):=by
 simp only[IntKind.wrap,IntKind.signed,IntKind.bits];simp
theorem y6{x:Nat}(h:x<2^64):IntKind.u64.wrap (x:Int)=x:=by
 simp only[IntKind.wrap,IntKind.signed,IntKind.bits];simp;omega
theorem wj{x:Nat}(h:x<256):(BitVec.ofInt 8 (x:Int)).toNat=x:=by
 rw[Hl];show((x:Int)%256).toNat=x;omega
theorem aa8{x:Nat}(h:x<2^64):(BitVec.ofInt 64 (x:Int)).toNat=x:=by
 rw[sI];omega
theorem sA{x y:Nat}(af:x<256)(aF:y<256):gX .xor .u8 x y=((x^^^y:Nat):Int):=by
 show IntKind.u8.wrap ((BitVec.ofInt 8 (x:Int)^^^BitVec.ofInt 8 (y:Int)).toNat:Nat)=_;rw[DQ,wj af,wj aF];exact tr (mR (n:=8) af aF)
theorem Ex{x y:Nat}(af:x<256)(aF:y<256):gX .or .u8 x y=((x|||y:Nat):Int):=by
 show IntKind.u8.wrap ((BitVec.ofInt 8 (x:Int)|||BitVec.ofInt 8 (y:Int)).toNat:Nat)=_;rw[OG,wj af,wj aF];exact tr (Bb (n:=8) af aF)
theorem CH{x y:Nat}(af:x<256)(aF:y<256):gX .and .u8 x y=((x&&&y:Nat):Int):=by
 show IntKind.u8.wrap ((BitVec.ofInt 8 (x:Int)&&&BitVec.ofInt 8 (y:Int)).toNat:Nat)=_;rw[zP,wj af,wj aF];exact tr (lU BN af)
theorem Am{x:Nat}(af:x<256):gX .and .u8 x 1=((x%2:Nat):Int):=by
 have:=CH af (show 1<256 by omega);rw[Dk] at this;exact this
theorem pG{x k:Nat}(ah:k≤8):IntKind.u8.wrap ((x:Int)*2^(min (k:Int).toNat IntKind.u8.bits))=((x*2^k%256:Nat):Int):=by
 have:min (k:Int).toNat IntKind.u8.bits=k:=by simp[IntKind.bits];omega
 rw[this];have e:(x:Int)*2^k=((x*2^k:Nat):Int):=by push_cast;rfl
 rw[e];exact EG _
theorem td{x k:Nat}(ah:k≤8):((x:Int)).fdiv (2^(min (k:Int).toNat IntKind.u8.bits))=((x>>>k:Nat):Int):=by
 have:min (k:Int).toNat IntKind.u8.bits=k:=by simp[IntKind.bits];omega
 rw[this,jp,HM _ (by exact N6 (PP (by decide)))]
 push_cast
 rfl
theorem J1{x k:Nat}(ah:k≤64):((x:Int)).fdiv (2^(min (k:Int).toNat IntKind.u64.bits))=((x>>>k:Nat):Int):=by
 have:min (k:Int).toNat IntKind.u64.bits=k:=by simp[IntKind.bits];omega
 rw[this,jp,HM _ (by exact N6 (PP (by decide)))]
 push_cast
 rfl
end Go.a6
end
section
namespace Go.Proofs.YtcgjepodnfjggaaGreatDoor
open Go Go.a6
theorem Lr{x:Nat}(h:x<4294967296):IntKind.u32.wrap (x:Int)=x:=by
 simp only[IntKind.wrap,IntKind.signed,IntKind.bits];simp;omega
theorem EZ{x:Nat}(h:x<65536):IntKind.u16.wrap (x:Int)=x:=by
 simp only[IntKind.wrap,IntKind.signed,IntKind.bits];simp;omega
theorem ahe(x:Nat):IntKind.u16.wrap (x:Int)=((x%65536:Nat):Int):=by
 simp only[IntKind.wrap,IntKind.signed,IntKind.bits];simp
theorem H9{x:Nat}(h:x<4294967296):(BitVec.ofInt 32 (x:Int)).toNat=x:=by
 rw[Hl];show((x:Int)%4294967296).toNat=x;omega
theorem As{x:Nat}(h:x<65536):(BitVec.ofInt 16 (x:Int)).toNat=x:=by
 rw[Hl];show((x:Int)%65536).toNat=x;omega
theorem Qx{x y:Nat}(af:x<4294967296)(aF:y<4294967296):gX .xor .u32 x y=((x^^^y:Nat):Int):=by
 show IntKind.u32.wrap ((BitVec.ofInt 32 (x:Int)^^^BitVec.ofInt 32 (y:Int)).toNat:Nat)=_;rw[DQ,H9 af,H9 aF];exact Lr (mR (n:=32) af aF)
theorem WM{x y:Nat}(af:x<4294967296)(aF:y<4294967296):gX .and .u32 x y=((x&&&y:Nat):Int):=by
 show IntKind.u32.wrap ((BitVec.ofInt 32 (x:Int)&&&BitVec.ofInt 32 (y:Int)).toNat:Nat)=_;rw[zP,H9 af,H9 aF];exact Lr (lU BN af)
theorem OA{x y:Nat}(af:x<65536)(aF:y<65536):gX .xor .u16 x y=((x^^^y:Nat):Int):=by
 show IntKind.u16.wrap ((BitVec.ofInt 16 (x:Int)^^^BitVec.ofInt 16 (y:Int)).toNat:Nat)=_;rw[DQ,As af,As aF];exact EZ (mR (n:=16) af aF)
theorem ajC{x y:Nat}(af:x<65536)(aF:y<65536):gX .or .u16 x y=((x|||y:Nat):Int):=by
 show IntKind.u16.wrap ((BitVec.ofInt 16 (x:Int)|||BitVec.ofInt 16 (y:Int)).toNat:Nat)=_;rw[OG,As af,As aF];exact EZ (Bb (n:=16) af aF)
theorem atY{x y:Nat}(af:x<65536)(aF:y<65536):gX .and .u16 x y=((x&&&y:Nat):Int):=by
 show IntKind.u16.wrap ((BitVec.ofInt 16 (x:Int)&&&BitVec.ofInt 16 (y:Int)).toNat:Nat)=_;rw[zP,As af,As aF];exact EZ (lU BN af)
theorem Dg{K:cg}{x k:Nat}(ah:k≤8)(eY:8≤K.bits):((x:Int)).fdiv (2^(min (k:Int).toNat K.bits))=((x/ 2^k:Nat):Int):=by
 have:min (k:Int).toNat K.bits=k:=by simp;omega
 rw[this];have e:(2:Int)^k=((2^k:Nat):Int):=by push_cast;rfl
 rw[e,HM _ (u5 _)];rfl
theorem aqK(x:Nat):IntKind.u32.wrap (0- ((x%2:Nat):Int))=((if x%2=1 then 4294967295 else 0:Nat):Int):=by
 have h:x%2<2:=fV _ (by decide);by_cases aa:x%2=1
 ·rw[aD aa,aa];decide
 ·rw[az aa,show x%2=0 by omega];decide
theorem ajD(x:Nat):3988292384&&&(if x%2=1 then 4294967295 else 0)=if x%2=1 then 0xEDB88320 else 0:=by
 by_cases aa:x%2=1
 ·rw[aD aa,aD aa];decide
 ·rw[az aa,az aa];decide
theorem agh(x:Nat):(x^^^x/ 4^^^x/ 8^^^x/ 32)*2^15%65536=((x%2+x/ 4%2+x/ 8%2+x/ 32%2)%2)*32768:=by
 have h:(x^^^x/ 4^^^x/ 8^^^x/ 32)%2=(x%2+x/ 4%2+x/ 8%2+x/ 32%2)%2:=by
  have key:∀a b:Nat,(a^^^b)%2=(a%2+b%2)%2:=fun a b=>by
   have aB:(a^^^b)%2^1=(a%2^1)^^^(b%2^1):=XG;rw[Nat.pow_one] at aB;rw[aB];have aj:a%2<2:=fV _ (by decide);have ad:b%2<2:=fV _ (by decide);generalize a%2=p at*;generalize b%2=q at*
   match p,q,aj,ad with
   |0,0,_,_=>rfl
   |0,1,_,_=>rfl
   |1,0,_,_=>rfl
   |1,1,_,_=>rfl
  rw[key,key,key];omega
 omega
theorem agw(x:Nat)(af:x<65536):(x/ 2)|||(((x%2+x/ 4%2+x/ 8%2+x/ 32%2)%2)*32768)=x3 x:=by
 unfold x3;have ab:(x%2+x/ 4%2+x/ 8%2+x/ 32%2)%2<2:=fV _ (by decide);generalize (x%2+x/ 4%2+x/ 8%2+x/ 32%2)%2=b at*;have:=ab3 (i:=15) (b:=x/ 2) (by omega) b;rw[o3 b,B8,MA];exact this.symm
theorem Uo(a b i:Nat)(aj:a<2^i):a|||(b*2^i)=a+2^i*b:=by
 have:=ab3 (i:=i) (b:=a) aj b;rw[o3 b,MA,B8];exact this.symm
end Go.Proofs.YtcgjepodnfjggaaGreatDoor
end
section
namespace Go.Proofs.YtcgjepodnfjggaaGreatDoor
open Go.a6 Go.cv
set_option maxRecDepth 100000
def nn(m:Int):Nat:=if m<3∨14<m then 0 else ou m.toNat
def IR:cJ:= #[.int .i64 11,.int .i64 19,.int .i64 37,.int .i64 67,.int .i64 137,.int .i64 285,.int .i64 529,.int .i64 1033,.int .i64 2053,.int .i64 4179,.int .i64 8219,.int .i64 17475]
theorem KH{m:Int}(aa:¬m<3)(ab:¬14<m):IR[(m- 3).toNat]?=some (.int .i64 (nn m:Nat)):=by
 have:m=3∨m=4∨m=5∨m=6∨m=7∨m=8∨m=9∨m=10∨m=11∨m=12∨m=13∨m=14:=by omega
 rcases this with rfl|rfl|rfl|rfl|rfl|rfl|rfl|rfl|rfl|rfl|rfl|rfl<;>rfl
theorem TB{m:Nat}(h:Ok m):nn (m:Nat)=ou m:=by
 have aa:=h.lo;have ab:=h.hi;unfold nn;rw[az (by omega)];rfl
theorem Rq(m:Int):((nn m:Nat):Int)=0↔(m<3∨14<m):=by
 unfold nn;by_cases h:m<3∨14<m
 ·simp[h]
 ·rw[az h];have hm:Ok m.toNat:=⟨by omega,by omega⟩;have:=(KB hm).1;have:=eI m.toNat;constructor
  ·intro an;omega
  ·intro an;exact absurd an h
theorem Bj{m:Int}(h:m<3∨14<m):((0:Nat):Int)=(nn m:Nat):=((Rq m).2 h).symm
theorem Vo(m:Int):nn m<2^63:=by
 unfold nn;split
 ·exact eI 63
 ·have hm:Ok m.toNat:=⟨by omega,by omega⟩;exact h6 (KB hm).2 (px (by omega) (by have:=hm.hi;omega))
theorem acF(m:Int)(w:ao)(hm: -9223372036854775000≤m∧m≤9223372036854775000):cC Tryz.prog 93 [.int .i64 m] w (.int .i64 (nn m:Nat)):=by
 refine b8 Tryz.func93 I Tryz.ntmps93 I<|J.aw 1 I<|ak I I<|U.bl 3 I<|A5 I I (cells:=IR) I<|gg I aJ<|fun Yv=>fE 0 I I (by kernel_rfl) I I I (by decide) aJ<|U.next<|J.seq<|J.aw 6 I<|ac I I<|cQ I I I I<|ac I I ?_;refine U.bool 7 I (fun ad=>?_) (fun ad=>?_)
 ·replace ad:=gF ad;exact U.skip I<|U.skip I<|fe I I I<|U.next<|J.hH I<|J.aw 1 I<|ak I I<|U.next<|J.ret<|al.ret Tryz.results93 I (fun w hw=>⟨by rw[oneOf,←Bj (.inl ad)];rfl,hw.nothing⟩)
 ·replace ad:=jG ad;refine ac I I<|fD I I I I<|ef I I I<|U.next ?_;refine J.test I (fun ag=>?_) (fun ag=>?_)
  ·exact J.aw 1 I<|ak I I<|U.next<|J.ret<|al.ret Tryz.results93 I (fun w hw=>⟨by rw[oneOf,←Bj (.inr ag)];rfl,hw.nothing⟩)
  ·exact J.skip<|al.code<|J.aw 5 I<|ac I I<|eB I I I (bm (by omega))<|n0 (m- 3).toNat I I I (by omega) (by omega)<|cm 0 I I I (by rw[iO,dJ];exact KH ad ag)<|ak I I<|U.next<|J.ret<|al.ret Tryz.results93 I (fun w hw=>⟨I,hw.nothing⟩)
theorem atM(m:Int)(w:ao)(hm: -9223372036854775000≤m∧m≤9223372036854775000):cC Tryz.prog 375 [.int .i64 m] w (.int .i64 (nn m:Nat)):=by
 refine b8 Tryz.func375 I Tryz.ntmps375 I<|J.aw 1 I<|ak I I<|U.next<|J.seq<|J.aw 6 I<|ac I I<|cQ I I I I<|ac I I ?_;refine U.bool 5 I (fun ad=>?_) (fun ad=>?_)
 ·replace ad:=gF ad;exact U.skip I<|U.skip I<|fe I I I<|U.next<|J.hH I<|J.aw 1 I<|ak I I<|U.next<|J.ret<|al.ret Tryz.results375 I (fun w hw=>⟨by rw[oneOf,←Bj (.inl ad)];rfl,hw.nothing⟩)
 ·replace ad:=jG ad;refine ac I I<|fD I I I I<|ef I I I<|U.next ?_;refine J.test I (fun ag=>?_) (fun ag=>?_)
  ·exact J.aw 1 I<|ak I I<|U.next<|J.ret<|al.ret Tryz.results375 I (fun w hw=>⟨by rw[oneOf,←Bj (.inr ag)];rfl,hw.nothing⟩)
  ·exact J.skip<|al.code<|J.aw 6 I<|ja I I (cells:=IR) (by kernel_rfl) I aJ<|fun Yv=>ac I I<|eB I I I (bm (by omega))<|eP (m- 3).toNat I I I (by omega) (by omega)<|cm 0 I I I (KH ad ag)<|ak I I<|U.next<|J.ret<|al.ret Tryz.results375 I (fun w hw=>⟨I,hw.nothing⟩)
def vk(m:Nat):Nat→Nat→Nat
 |0,_=>0
 |i+1,x=>if x=ex m i then i else vk m i x
def pL(m i:Nat):cJ:=((List.range (N m)).map (fun j=>.int .i64 ((if j<i then ex m j else 0:Nat)))).toArray
def pr(m i:Nat):cJ:=((List.range (N m+1)).map (fun x=>.int .i64 (vk m i x:Nat))).toArray
def Co(m ge e5:Nat):cJ:= #[.int .i64 (m:Nat),.int .i64 ((N m+1:Nat):Int),.slice (some ⟨ge,0,none⟩) (N m) (N m),.slice (some ⟨e5,0,none⟩) (N m+1) (N m+1)]
theorem PF(m:Nat):(List.replicate (N m) (.int .i64 0)).toArray=pL m 0:=by
 rw[Qr];unfold pL;simp
theorem Nb(m:Nat):(List.replicate (N m+1) (.int .i64 0)).toArray=pr m 0:=by
 rw[Qr];unfold pr;simp[vk]
theorem aro{m i:Nat}(_hi:i<N m):(pL m i).setIfInBounds i (.int .i64 (ex m i:Nat))=pL m (i+1):=by
 unfold pL;rw[O6];congr 1;apply m1;intro j _;by_cases h:j=i
 ·subst h;simp
 ·rw[az h];by_cases ab:j<i
  ·rw[aD ab,aD (by omega)]
  ·rw[az ab,az (by omega)]
theorem aqH(m i:Nat):(pr m i).setIfInBounds (ex m i) (.int .i64 (i:Nat))=pr m (i+1):=by
 unfold pr;rw[O6];congr 1;apply m1;intro j _;by_cases h:j=ex m i
 ·rw[aD h];simp[vk,h]
 ·rw[az h];simp[vk,h]
theorem aib(m i:Nat):(pL m i).size=N m:=by simp[pL]
theorem anf(m i:Nat):(pr m i).size=N m+1:=by simp[pr]
theorem ajh(m:Nat):pL m (N m)=(Ja m).toArray:=by
 unfold pL Ja;congr 1;apply m1;intro j ax;rw[aD (by simpa using ax)]
theorem ahQ{m:Nat}(h:Ok m)(i:Nat):vk m i 0=0:=by
 induction i with
 |zero=>rfl
 |succ i ih=>have:=(ns h i).1;unfold vk;rw[az (by omega),ih]
theorem Sa{m:Nat}(h:Ok m):∀i,i≤N m→∀j,j<i→vk m i (ex m j)=j
 |0,_,j,ax=>by omega
 |i+1,hi,j,ax=>by
  unfold vk;by_cases eK:j=i
  ·subst eK;simp
  ·rw[az (fun he=>eK (Jn h (by omega) (by omega) he))];exact Sa h i (by omega) j (by omega)
theorem ak0{m:Nat}(h:Ok m):pr m (N m)=(GY m).toArray:=by
 unfold pr GY;congr 1;apply m1;intro x af;by_cases aB:x=0
 ·subst aB;rw[ahQ h];simp
 ·rw[az aB];have tH:x<2^m:=by rw[←kZ];simpa using af
  obtain⟨i,hi,rfl⟩:=MX h (by omega) tH;rw[Sa h _ (cq _) i hi,Yy h hi]
theorem tO{m:Nat}(h:Ok m):IntKind.i64.wrap (1*2^(min ((m:Nat):Int).toNat IntKind.i64.bits))=((N m+1:Nat):Int):=by
 have aG:=gS h;have ab:=h.hi;have e:((1:Nat):Int)*2^(min ((m:Nat):Int).toNat IntKind.i64.bits)=1*2^(min ((m:Nat):Int).toNat IntKind.i64.bits):=rfl;have aq:=kZ m;rw[←e,AF (by omega) (by omega)];omega
theorem aoE{m i:Nat}(h:Ok m)(ag:((N m+1:Nat):Int)≤((2*ex m i:Nat):Int)):gX .xor .i64 ((2*ex m i:Nat):Int) (nn (m:Nat):Nat)=(ex m (i+1):Nat):=by
 have aa:=(ns h i).2;have aG:=gS h;have aq:=kZ m;rw[xd (by omega) (Vo _),TB h,QS,w0,aD (by omega)]
theorem ajy{m i:Nat}(ag:¬((N m+1:Nat):Int)≤((2*ex m i:Nat):Int)):((2*ex m i:Nat):Int)=(ex m (i+1):Nat):=by
 have aq:=kZ m;rw[QS,w0,az (by omega)]
theorem ash{m:Nat}(h:Ok m){g ge e5 Sh NX:Nat}{F:Nat→Prop}{w₀ w:ao}(aiS:Sh=190)(ag8:NX=3)(dq:au F w₀ [aE e5 NX (pr m (N m)),aE ge NX (pL m (N m)),aE g Sh (Co m ge e5)] w):au F w₀ [fL g m] w:=by
 subst aiS ag8;obtain⟨aa,ab,an⟩:=dq;refine⟨aa,ab,?_⟩;obtain⟨iI,⟨e1,a2⟩,a3,iU,⟨h8,hX⟩,lg,am0,⟨dO,c2⟩,k0,_⟩:=an;refine⟨fun k=>iI k∨iU k∨am0 k,⟨ge,e5,.inr (.inr ((dO _).2 I)),.inr (.inl ((h8 _).2 I)),.inl ((e1 _).2 I),c2,by rw[←ajh];exact hX,by rw[←ak0 h];exact a2⟩,?_,trivial⟩;rintro k (ah|ah|ah)
 ·exact a3 k ah
 ·exact⟨fun aI=>(lg k ah).1 (.inl aI),(lg k ah).2⟩
 ·exact⟨fun aI=>(k0 k ah).1 (.inl (.inl aI)),(k0 k ah).2⟩
theorem agA(m:Nat)(w:ao)(hm:Ok m):fh Tryz.prog 53 [.int .i64 (m:Nat)] w (X:=Nat) (fun g=>two (.pointer (some ⟨g,0,none⟩)) .nilIface) (fun _=>True) (fun g=>[fL g m]):=by
 have aG:=gS hm;have aq:=kZ m;have pe:=hm.lo;have Ai:=hm.hi;have anE:¬((nn (m:Nat):Nat):Int)=0:=fun h=>by have:=(Rq _).1 h;omega
 refine b8 Tryz.func53 I Tryz.ntmps53 I<|J.aw 2 I<|ak I I<|ak I I<|U.next<|J.seq<|J.aw 3 I<|ac I I<|bJ I I I I (fun w hw=>acF _ _ (by omega)) aJ<|gy I I I (df anE)<|U.next<|J.dy I<|J.skip<|al.code<|J.aw 6 I<|ac I I<|ac I I<|ir I I I (by omega) (tO hm)<|gl I I (cells:= #[.int .i64 (m:Nat),.int .i64 ((N m+1:Nat):Int),.slice none 0 0,.slice none 0 0]) I<|fx I I aJ<|fun g=>ak I I<|U.next ?_;refine J.cut (G:=Nat×Nat×Nat×Nat) (fun q=>[(0,.int .i64 (m:Nat)),(4,.pointer (some ⟨q.2.2.1,0,none⟩))]) (fun q=>bF w [aE q.1 3 (pr m 0),aE q.2.1 3 (pL m 0),aE q.2.2.1 190 (Co m q.2.1 q.1)]) (fun _=>True) ?_ ?_
 ·refine J.dQ (bW [0,1,2,3,4,5,6,8,9,10,11] (.hp 7 (bW [13,14] (.hp 12 (cj [15] (bW [16,17] (cj [18] .done))) (cj [15,12] (bW [16,17] (cj [18] .done))))) (cj [12,7] (bW [13,14] (cj [15] (bW [16,17] (cj [18] .done))))))) (fun w=>w.cell? ⟨g,1,none⟩=some (.int .i64 ((N m+1:Nat):Int))) mixed (by kernel_rfl) (fun _ h=>h.drew) (fun _ h=>h.cP (i:=0) I I)<|ac I I<|ac I I<|ac I I<|bI I I<|bd I I<|dc I I (fun _ h=>h)<|eB I I I (r:=(N m:Nat)) (by rw[DT];exact bm (by omega))<|ac I I<|bI I I<|bd I I<|dc I I (fun _ h=>h) ?_;refine U.hp ?_ ?_
  ·refine lP (N m) I I I I I (by omega) (fun _ h=>h.cP (i:=0) I I)<|fun ge=>bI I I<|bd I I ?_;refine U.hp ?_ ?_
   ·exact lP (N m+1) I I I I I (by omega) (fun _ h=>h.cP (i:=1) I I)<|fun e5=>eh 2 I I I I I (by simp[Value.cells]) (fun _ h=>h.cP (i:=2) I I)<|bI I I<|bd I I<|eh 2 I I I I I (by simp[Value.cells]) (fun _ h=>h.cP (i:=2) I I)<|U.end_<|al.join (e5,ge,g,0) ⟨I,I,trivial⟩ (fun w h=>by have:=h.pick [0,0,0] I;rw[Nb,PF] at this;exact this) trivial
   ·exact eh 1 I I I I I (by simp[Value.cells]) (fun _ h=>h.cP (i:=1) I I)<|lP (N m+1) I I I I I (by omega) (fun _ h=>h.cP (i:=1) I I)<|fun e5=>bI I I<|bd I I<|eh 2 I I I I I (by simp[Value.cells]) (fun _ h=>h.cP (i:=2) I I)<|U.end_<|al.join (e5,ge,g,0) ⟨I,I,trivial⟩ (fun w h=>by have:=h.pick [0,0,0] I;rw[Nb,PF] at this;exact this) trivial
  ·exact lP (N m+1) I I I I I (by omega) (fun _ h=>h.cP (i:=0) I I)<|fun e5=>lP (N m) I I I I I (by omega) (fun _ h=>h.cP (i:=1) I I)<|fun ge=>bI I I<|bd I I<|eh 2 I I I I I (by simp[Value.cells]) (fun _ h=>h.cP (i:=2) I I)<|bI I I<|bd I I<|eh 2 I I I I I (by simp[Value.cells]) (fun _ h=>h.cP (i:=2) I I)<|U.end_<|al.join (e5,ge,g,0) ⟨I,I,trivial⟩ (fun w h=>by have:=h.pick [1,0,0] I;rw[Nb,PF] at this;exact this) trivial
 ·intro q _;refine J.aw 1 I<|ak I I<|U.next<|J.seq<|J.aw 6 I<|ac I I<|bI I I<|bd I I<|cm 2 I I I I<|cf I I<|ac I I<|U.next<|J.block<|J.loop (G:=Nat×Nat×Nat×Nat) (fun q=>[(0,.int .i64 (m:Nat)),(4,.pointer (some ⟨q.2.2.1,0,none⟩)),(5,.int .i64 (ex m q.2.2.2:Nat)),(37,.int .i64 (N m:Nat)),(38,.int .i64 (q.2.2.2:Nat))]) (fun q=>bF w [aE q.1 3 (pr m q.2.2.2),aE q.2.1 3 (pL m q.2.2.2),aE q.2.2.1 190 (Co m q.2.1 q.1)]) (fun q=>q.2.2.2≤N m) (fun q=>N m- q.2.2.2) (q.1,q.2.1,q.2.2.1,0) ⟨I,I,I,I,I,trivial⟩ (fun _ h=>h) (dg _) ?_;rintro⟨e5,ge,g,i⟩ hi;simp only at hi⊢;have hex:=ns hm i;have axr:=aib m i;have hf:=anf m i;refine J.aw 1 I<|cQ I I I I<|U.next<|J.seq ?_;refine J.test I (fun ag=>?_) (fun ag=>?_)
  ·replace ag:i<N m:=by omega
   refine J.skip<|al.code ?_;refine J.cut (G:=Unit) (fun _=>[(0,.int .i64 (m:Nat)),(4,.pointer (some ⟨g,0,none⟩)),(5,.int .i64 (ex m (i+1):Nat)),(37,.int .i64 (N m:Nat)),(38,.int .i64 (i:Nat))]) (fun _=>bF w [aE e5 3 (pr m (i+1)),aE ge 3 (pL m (i+1)),aE g 190 (Co m ge e5)]) (fun _=>True) ?_ ?_
   ·refine J.block<|J.aw 2 I<|ac I I<|ak I I<|U.next ?_;refine J.cut (G:=Unit) (fun _=>[(0,.int .i64 (m:Nat)),(4,.pointer (some ⟨g,0,none⟩)),(5,.int .i64 (ex m i:Nat)),(37,.int .i64 (N m:Nat)),(38,.int .i64 (i:Nat))]) (fun _=>bF w [aE e5 3 (pr m (i+1)),aE ge 3 (pL m (i+1)),aE g 190 (Co m ge e5)]) (fun _=>True) ?_ ?_
    ·exact J.dQ (bW [0,1,2,3,4,5,6,7,8,9,10,11,12] (cj [13] (bW [14] (cj [15] .done)))) (bF w [aE g 190 (Co m ge e5)]) mixed (by kernel_rfl) (fun _ h=>h.drew) (fun _ h=>h.pick [2] I)<|ac I I<|bI I I<|bd I I<|dc I I (fun _ h=>h.cP (i:=0) I I)<|ac I I<|ac I I<|bI I I<|bd I I<|dc I I (fun _ h=>h.cP (i:=0) I I)<|ac I I<|ac I I<|ac I I<|eP i I I I I ag<|eh 1 I I I I I (by omega) (fun _ h=>h.pick [2] I)<|eP (ex m i) I I I I (by omega)<|eh 0 I I I I I (by omega) (fun _ h=>h.pick [2] I)<|U.end_<|al.join () ⟨I,I,I,I,I,trivial⟩ (fun w h=>by rw[←aqH,←aro ag];exact h) trivial
    ·intro _ _;refine J.aw 3 I<|ac I I<|jE I I I (r:=((2*ex m i:Nat):Int)) (by rw[show((ex m i:Nat):Int)*2=((2*ex m i:Nat):Int) by omega];exact bm (by omega))<|ak I I<|U.bl 6 I<|ac I I<|ac I I<|bI I I<|bd I I<|cm 2 I I I I<|jz I I I I<|U.next ?_;refine J.test I (fun ag=>?_) (fun ag=>?_)
     ·exact J.rg 5 I<|ac I I<|ac I I<|bJ I I I I (fun w hw=>acF _ _ (by omega)) aJ<|dY I I I I (aoE hm ag)<|ak I I<|U.end_<|al.aE<|al.join () ⟨I,I,I,I,I,trivial⟩ (fun w h=>h) trivial
     ·exact J.skip<|al.aE<|al.join () ⟨I,I,by rw[←ajy ag];rfl,rfl,rfl,trivial⟩ (fun w h=>h) trivial
   ·intro _ _;exact J.rg 2 I<|b1 I I I (r:=((i+1:Nat):Int)) (bm (by omega))<|ac I I<|U.end_<|al.back (e5,ge,g,i+1) ⟨I,I,I,I,I,trivial⟩ (fun _ h=>h) ag (by simp only;omega)
  ·obtain rfl:i=N m:=by omega
   exact J.exit I<|al.code<|J.aw 3 I<|ac I I<|ak I I<|ak I I<|U.next<|J.ret<|al.ret Tryz.results53 I (fun w hw=>⟨g,I,trivial,ash hm I I hw⟩)
end Go.Proofs.YtcgjepodnfjggaaGreatDoor
end
section
namespace Go.a6
open Go
section
variable{w:ao}{sz n:Nat}{A:aN}{vs:cw}
theorem Has.Io(w:ao)(sz:Nat)(A:aN):Has (aP sz A 0 []) w:=⟨fun _=>False,⟨by simp,fun h=>absurd rfl h⟩,fun _ h=>h.elim⟩
theorem Has.kI{g T m:Nat}{cs:cJ}(h:Has (aE g T cs) w)(aq:cs.size=m*sz):Has (aP sz (some ⟨g,0,none⟩) m cs.toList) w:=by
 obtain⟨D,⟨aa,ab⟩,an⟩:=h;refine⟨D,⟨by simpa using aq,fun _=>⟨I,(aa g).2 I,fun j v ax=>?_⟩⟩,an⟩;show w.cell? ⟨g,0+j,none⟩=some v;rw[iO,qC ab];simpa using ax
def gw(A:aN)(lo sz c:Nat):aN:=if c=lo then A else A.map (·.add (lo*sz))
theorem Zj(A:aN)(sz c:Nat):gw A 0 sz c=A:=by
 unfold gw;split
 ·rfl
 ·rw[jc];cases A with
  |none=>rfl
  |some a=>simp[Addr.add]
theorem Has.K2{c lo hi:Nat}(h:Has (aP sz A n vs) w)(aa:lo≤hi)(ab:hi≤n)(ag:n≤c):Has (aP sz (gw A lo sz c) (hi- lo) ((vs.drop (lo*sz)).take ((hi- lo)*sz))) w:=by
 obtain⟨D,⟨an,aK⟩,bo⟩:=h;refine⟨D,⟨?_,fun aQ=>?_⟩,bo⟩
 ·rw[fW,qV,an,←Nat.sub_mul];exact kx (xo _ (by omega))
 ·obtain⟨k1,k2,bx⟩:=aK (by omega);have bs:gw A lo sz c=some ⟨ob A,ju A+lo*sz,none⟩:=by
   unfold gw;rw[az (by omega)];conv=>lhs;rw[k1]
   simp[lB]
  rw[bs];refine⟨I,k2,fun j v ax=>?_⟩;rw[mj] at ax;split at ax
  ·rw[wQ] at ax;have:=bx _ v ax;simp only[ob,ju];rw[Bc];exact this
  ·cases ax
end
section
variable{P:a8}{w:ao}
theorem OC{T E:aO}(h:P.underlying T=some (.slice E)):P.elem T=E:=by simp[Program.elem,h]
theorem asx{T E sz by_:Nat}{z:aV}[h:dN P T E sz by_ z]{A:aN}{m c:Nat}{k:cg}{hi:Int}(aB:0≤hi)(ab:hi≤c):
  (Instr.slice T (.slice A m c) none (some (.int k hi)) none).run P w=.ok (.slice A hi.toNat c) w:=by
 obtain⟨i,oK,aq,_⟩:=h.rq;have e:=OC h.under;rw[run_slice_h w T A m c (by rw[e];exact h.under) k hi aB ab,e];simp only[sizeOf,Sem.run_bind,mf oK,Result.andThen_ok,Sem.run_pure,aq];have:=Zj A sz c;unfold gw at this;simp only[sliced,this,nk]
theorem aqC{T E sz by_:Nat}{z:aV}[h:dN P T E sz by_ z]{A:aN}{m c:Nat}{k:cg}{lo:Int}(aB:0≤lo)(ab:lo≤m):
  (Instr.slice T (.slice A m c) (some (.int k lo)) none none).run P w=.ok (.slice (gw A lo.toNat sz c) (m- lo.toNat) (c- lo.toNat)) w:=by
 obtain⟨i,oK,aq,_⟩:=h.rq;have e:=OC h.under;rw[run_slice_l w T A m c (by rw[e];exact h.under) k lo aB ab,e];simp only[sizeOf,Sem.run_bind,mf oK,Result.andThen_ok,Sem.run_pure,aq,sliced,gw]
theorem Wy{T E sz by_:Nat}{z:aV}[h:dN P T E sz by_ z](x:aV)(lo hi mx:Option aV):(Instr.sliceAt T x lo hi mx).run P w=(Instr.slice T x lo hi mx).run P w:=
 run_sliceAt_slice w T x lo hi mx (by rw[OC h.under];exact h.under)
theorem UB{T E sz by_:Nat}{z:aV}[h:dN P T E sz by_ z]{A:aN}{n c c2:Nat}{ty:aO}(ag:n≤c):
  (Builtin.append_ #[T,T] ty #[.slice A n c,.slice none 0 c2]).run P w=.ok (.slice A n c) w:=by
 obtain⟨i,oK,aq,_⟩:=h.rq;cases A with
 |none=>simp[Builtin.append_,run_underlying h.under,sizeOf,mf oK,Builtin.lenOf,Builtin.firstCells,ag]
 |some a=>simp[Builtin.append_,run_underlying h.under,sizeOf,mf oK,Builtin.lenOf,Builtin.firstCells,ag,storeCells]
end
section
variable{P:a8}{ops:Array Oper}{S:ao→Prop}{K:Act→ao→Prop}{p:eR}{n:Nat}{l:List (Nat×aV)}{C:ao→Prop}{fl:Bool}{i:Nat}{ty dr dk tR:aO}{x y z u:bf}
variable{F:Nat→Prop}{w₀:ao}{L dv:List bi}
theorem oJ{d:Nat}(q:Nat){E sz by_:Nat}{zv:aV}{A:aN}{m c:Nat}{k:cg}{hi:Int}(av:cG ops n l i=some (some d,.slice ty x none (some y) none,dk))[dN P ty E sz by_ zv](af:bk l x=some (.slice A m c))(aF:bk l y=some (.int k hi))
  (aM:hi=(q:Nat)) (ag:q≤c) (h:U P ops S K p n ((d,(.slice A q c))::l) C):U P ops S K (.bB fl i p) n l C:=
 U.pure av (fun a w o he aa _=>by
  subst aM;simp only[execOp,aa,he.bk af,he.bk aF,pB,gv,Sem.run_bind,Wy (P:=P) (T:=ty),asx (w:=w) (P:=P) (T:=ty) (m:=m) (c:=c) (A:=A) (k:=k) (hi:=((q:Nat):Int)) (by omega) (by omega),Result.andThen_ok,Sem.run_pure,jK]) h
theorem B3{d:Nat}(q:Nat){E sz by_:Nat}{zv:aV}{A:aN}{m c:Nat}{k:cg}{lo:Int}(av:cG ops n l i=some (some d,.slice ty x (some y) none none,dk))[dN P ty E sz by_ zv](af:bk l x=some (.slice A m c))(aF:bk l y=some (.int k lo))
  (aM:lo=(q:Nat)) (ag:q≤m) (h:U P ops S K p n ((d,(.slice (gw A q sz c) (m- q) (c- q)))::l) C):U P ops S K (.bB fl i p) n l C:=
 U.pure av (fun a w o he aa _=>by
  subst aM;simp only[execOp,aa,he.bk af,he.bk aF,pB,gv,Sem.run_bind,Wy (P:=P) (T:=ty),aqC (w:=w) (P:=P) (T:=ty) (m:=m) (c:=c) (A:=A) (k:=k) (lo:=((q:Nat):Int)) (by omega) (by omega),Result.andThen_ok,Sem.run_pure,jK]) h
theorem qW{A:aN}{n c:Nat}:(Value.slice A n c).ownBlock=A.map (·.block):=by cases A<;>rfl
theorem ma{d:Nat}(q:Nat){E sz by_:Nat}{zv:aV}{A B:aN}{m c m2 c2:Nat}{xs ys:cw}{T:aO}(hi:L[q]?=some (own E sz A m c xs))
  (av:cG ops n l i=some (some d,.call ⟨.builtin .append, #[x,y], #[T,T]⟩,ty)) [cE:dN P T E sz by_ zv] (af:bk l x=some (.slice A m c)) (aF:bk l y=some (.slice B m2 c2))
  (br:∀w,au F w₀ L w→Has (aP sz B m2 ys) w) (aa:ys.all (·.oneCell')=true) (aL:zv.cells.size=sz) (aB:0<sz) (Df:m+m2≤maxLen) (ad:(m+m2)*by_≤140737488355328)
  (be:∀c8 dp w,au F w₀ (L.set q (own E sz c8 (m+m2) dp (xs++ys))) w→S w)
  (h:∀c8 dp,m+m2≤dp→U P ops S K p n ((d,.slice c8 (m+m2) dp)::l) (au F w₀ (L.set q (own E sz c8 (m+m2) dp (xs++ys))))):U P ops S K (.bB false i p) n l (au F w₀ L):=by
 obtain⟨inf,oK,aq,nB,kW⟩:=cE.rq;refine U.act (d:=some d) (X:={q:aN×Nat// m+m2≤q.2}) (v:=fun r=>.slice r.1.1 (m+m2) r.1.2) (ec:=fun r=>au F w₀ (L.set q (own E sz r.1.1 (m+m2) r.1.2 (xs++ys)))) av (fun a w o he hw x2 tn=>?_) (fun r w hw=>be _ _ w hw) (fun r=>h _ _ r.2);obtain⟨D,⟨sp,eg⟩,ca,kv⟩:=hw.rO hi;have hf:=br w hw;have hex:∀(v:aV) (ar:ao),(Builtin.append_ #[T,T] ty #[.slice A m c,.slice B m2 c2]).run P w=.ok v ar→(execOp a.eval o).run P w=.ok (.value v) ar:=fun v ar aH=>by
  simp only[execOp,x2,tn,resolve,Sem.run_bind,Sem.run_pure,Result.andThen_ok,invoke,builtin,oH,hW,lm,he.bk af,he.bk aF,aH]
 have sh:m≤c:=by
  rcases sp.2 with⟨h,ab⟩|⟨g,cap,cur,h,_,_,ab,_⟩
  ·injection h;omega
  ·injection h;omega
 by_cases aQ:B=none
 ·subst aQ;have EO:m2=0:=by
   by_cases h:m2=0
   ·exact h
   ·have:=hf.yV h;cases this
  subst EO;have KG:ys=[]:=kS (by rw[hf.hE];omega);subst KG;exact⟨⟨(A,c),by omega⟩,w,.inl (hex _ _ (UB sh)),by
   have:=kv w (own E sz A (m+0) c (xs++[])) D ⟨rfl,rfl,rfl,cq _,fun _ _=>rfl⟩ ⟨by simpa using sp,eg⟩ (fun k ah=>⟨.inl ah,ca k ah⟩);exact this⟩
 ·obtain⟨b,rfl⟩:∃b,B=some b:=by cases B with|none=>exact absurd rfl aQ|some b=>exact⟨b,rfl⟩
  have FC:∀j u,ys[j]?=some u→w.cell? (b.add j)=some u:=fun j u ax=>by
   have e7:m2≠0:=fun h=>by
    have:=hf.hE;rw[h,jc] at this;rw[kS this] at ax;simp at ax
   have ab:=hf.xT e7 ax;have an:=ab.1;rw[eb] at an;rw[an,lB];exact ab.2
  obtain⟨a1,ar,aH,k1,k2,bx,cl⟩:=run_append_own_at (P:=P) w 0 T ty E inf zv sz by_ cE.under oK kW aq nB aL aB (.slice A m c) m xs sp b m2 c2 ys hf.hE FC (lf.1 aa) Df ad (dg _);obtain⟨c8,dp,rfl,hle⟩:∃c8 dp,a1=.slice c8 (m+m2) dp∧m+m2≤dp:=by
   rcases k1.2 with⟨rfl,h⟩|⟨g,cap,cur,rfl,_,_,h,_⟩
   ·exact⟨none,0,by rw[h],by omega⟩
   ·exact⟨_,_,I,h⟩
  refine⟨⟨(c8,dp),hle⟩,ar,.inl (hex _ _ aH),kv ar (own E sz c8 (m+m2) dp (xs++ys)) (fun k=>c8≠none∧k=ob c8) ⟨k2.os,k2.tape,k2.output,k2.size,fun k ah=>k2.block k ah.1 (fun h=>?_)⟩ ⟨k1,fun k=>qT⟩ (fun k ah=>?_)⟩
  ·refine ah.2 ((eg k).2 ?_);rw[qW] at h;cases A with
   |none=>cases h
   |some a=>exact⟨by simp,by simpa[ob] using h⟩
  ·obtain⟨bN,rfl⟩:∃bN,c8=some bN:=by cases c8 with|none=>exact absurd rfl ah.1|some b=>exact⟨b,rfl⟩
   have jx:k=bN.block:=ah.2;subst jx;refine⟨?_,?_⟩
   ·rcases cl with h|h
    ·rw[qW,qW] at h;cases A with
     |none=>cases h
     |some a=>exact .inl ((eg _).2 ⟨by simp,by simpa[ob] using h⟩)
    ·rw[qW] at h;simp at h;exact .inr (by omega)
   ·rcases k1.2 with⟨h,_⟩|⟨g,cap,cur,h,_,ab,_⟩
    ·injection h with h;cases h
    ·injection h with h;simp only[eb] at h;subst h;obtain⟨an,_⟩:=vP.1 ab;exact an
end
section
variable{P:a8}{ops:Array Oper}{S:ao→Prop}{K:Act→ao→Prop}{p:eR}{n:Nat}{l:List (Nat×aV)}{C ec:ao→Prop}{R:Act→ao→Prop}{k:List lS}{c:Code}
theorem U.zR{w7:Prop}(h:∀w,C w→w7)(ah:w7→U P ops S K p n l C):U P ops S K p n l C:=⟨fun a w he ag aq=>(ah (h w ag)).run a w he ag aq⟩
theorem U.pre(h:∀w,C w→ec w)(ah:U P ops S K p n l ec):U P ops S K p n l C:=⟨fun a w he ag aq=>ah.run a w he (h w ag) aq⟩
theorem J.zR{w7:Prop}(h:∀w,C w→w7)(ah:w7→J P R k c n l C):J P R k c n l C:=⟨fun a w he ag=>(ah (h w ag)).run a w he ag⟩
theorem J.pre(h:∀w,C w→ec w)(ah:J P R k c n l ec):J P R k c n l C:=⟨fun a w he ag=>ah.run a w he (h w ag)⟩
theorem al.zR{w7:Prop}(h:∀w,C w→w7)(ah:w7→al P R k n l C):al P R k n l C:=⟨fun a w he ag=>(ah (h w ag)).run a w he ag⟩
theorem al.pre(h:∀w,C w→ec w)(ah:al P R k n l ec):al P R k n l C:=⟨fun a w he ag=>ah.run a w he (h w ag)⟩
end
section
variable{F:Nat→Prop}{w₀ w:ao}{L:List bi}{E sz m c:Nat}{A:aN}{xs:cw}
theorem Sep.iB(h:Sep F L w)(E sz:Nat):Sep F (own E sz none 0 0 []::L) w:=
 ⟨fun _=>False,⟨⟨by simp,.inl ⟨rfl,rfl⟩⟩,fun k=>⟨fun h=>h.elim,fun h=>h.1 rfl⟩⟩,fun _ h=>h.elim,h.nU (fun _ h=>h.elim id False.elim)⟩
theorem au.iB(E sz:Nat)(h:au F w₀ L w):au F w₀ (own E sz none 0 0 []::L) w:=⟨h.b6,h.lt,h.sep.iB E sz⟩
theorem au.ms{q:Nat}(hi:L[q]?=some (own E sz A m c xs))(h:au F w₀ L w):(m≠0→A=some ⟨ob A,0,none⟩)∧m≤c∧xs.length=m*sz:=by
 obtain⟨D,⟨⟨aa,ab⟩,_⟩,_⟩:=h.sep.at_ hi;rcases ab with⟨ab,an⟩|⟨g,cap,cur,br,_,_,ag,_⟩
 ·injection ab with _ _ aK;exact⟨fun aQ=>absurd an aQ,by omega,aa⟩
 ·injection br with bs hm cR;subst bs;exact⟨fun _=>I,by omega,aa⟩
theorem au.xy{q j:Nat}{v:aV}(hi:L[q]?=some (own E sz A m c xs))(br:xs[j]?=some v)(h:au F w₀ L w):w.cell? ⟨ob A,0+j,none⟩=some v:=by
 obtain⟨D,⟨⟨aa,ab⟩,_⟩,_⟩:=h.sep.at_ hi;rcases ab with⟨ab,an⟩|⟨g,cap,cur,nt,_,c6,ag,hm,aq,bb⟩
 ·have:=kS (show xs.length=0 by rw[aa,an,jc]);subst this;simp at br
 ·injection nt with bs;subst bs;rw[iO];show w.cell? ⟨g,j,none⟩=some v;rw[qC c6];rw[←bb,mj] at br;split at br
  ·simpa using br
  ·cases br
theorem au.H3{q j:Nat}(hi:L[q]?=some (own E sz A m c xs))(hm:m≠0)(h:au F w₀ L w):w.frozen? ⟨ob A,j,none⟩=false:=by
 obtain⟨D,⟨⟨aa,ab⟩,_⟩,_⟩:=h.sep.at_ hi;rcases ab with⟨_,an⟩|⟨g,cap,cur,nt,_,c6,_⟩
 ·exact absurd an hm
 ·injection nt with bs;subst bs;exact ZK c6 j
theorem au.NG{q j:Nat}{v:aV}(hi:L[q]?=some (own E sz A m c xs))(ax:j<xs.length)(h:au F w₀ L w):au F w₀ (L.set q (own E sz A m c (xs.set j v))) (w.setCell ⟨ob A,0+j,none⟩ v):=by
 obtain⟨D,⟨⟨aa,ab⟩,eg⟩,ca,kv⟩:=h.rO hi;rcases ab with⟨_,an⟩|⟨g,cap,cur,nt,ad,c6,ag,hm,aq,bb⟩
 ·rw[aa,an,jc] at ax;omega
 ·injection nt with bs EO cR;subst bs;clear EO;subst cR;rw[iO];refine kv _ _ D ⟨I,I,I,by simp[World.setCell],fun k ah=>TK _ _ _ (fun e=>ah.2 ((eg k).2 ⟨by simp,e⟩))⟩ ⟨⟨by simpa using aa,.inr ⟨g,c,cur.setIfInBounds j v,I,ad,aar c6 j v,ag,hm,by simpa using aq,?_⟩⟩,eg⟩ (fun k ah=>⟨.inl ah,by simp[World.setCell];exact ca k ah⟩);rw[Array.toList_setIfInBounds,List.take_set,bb]
theorem ajw(h:A=some ⟨ob A,0,none⟩):A=some ⟨ob A,ju A,none⟩:=by
 conv=>rhs;rw[h]
 conv=>lhs;rw[h]
 rfl
theorem abt(h:A=some ⟨ob A,0,none⟩):ju A=0:=by rw[h];rfl
end
section
variable{P:a8}{ops:Array Oper}{S:ao→Prop}{K:Act→ao→Prop}{p:eR}{n:Nat}{l:List (Nat×aV)}{C:ao→Prop}{fl:Bool}{i:Nat}{ty dr dk tR:aO}{x y z u:bf}
variable{F:Nat→Prop}{w₀:ao}{L dv:List bi}
theorem s0{d E sz by_:Nat}{zv:aV}{B:aN}{m2 c2:Nat}{ys:cw}{T:aO}
  (av:cG ops n l i=some (some d,.call ⟨.builtin .append, #[x,y], #[T,T]⟩,ty)) [cE:dN P T E sz by_ zv] (af:bk l x=some (.slice none 0 0)) (aF:bk l y=some (.slice B m2 c2))
  (br:∀w,au F w₀ L w→Has (aP sz B m2 ys) w) (aa:ys.all (·.oneCell')=true) (aL:zv.cells.size=sz) (aB:0<sz) (Df:m2≤maxLen) (ad:m2*by_≤140737488355328)
  (be:∀c8 dp w,au F w₀ (own E sz c8 m2 dp ys::L) w→S w)
  (h:∀c8 dp,m2≤dp→U P ops S K p n ((d,.slice c8 m2 dp)::l) (au F w₀ (own E sz c8 m2 dp ys::L))):U P ops S K (.bB false i p) n l (au F w₀ L):=by
 refine U.pre (fun w hw=>hw.iB E sz) ?_;have:=ma (P:=P) (ops:=ops) (S:=S) (K:=K) (p:=p) (n:=n) (l:=l) (F:=F) (w₀:=w₀) (L:=own E sz none 0 0 []::L) 0 (T:=T) (xs:=[]) (ys:=ys) rfl av af aF
  (fun w hw=>br w ⟨hw.b6,hw.lt,hw.sep.tail⟩) aa aL aB (by rw[iO];exact Df) (by rw[iO];exact ad)
 simp only[iO,uI,wD] at this;exact this be h
theorem gT{d:Nat}(q j:Nat){E by_:Nat}{zv:aV}{A:aN}{m c:Nat}{k:cg}{b:Int}{xs:cw}(hi:L[q]?=some (own E 1 A m c xs))(av:cG ops n l i=some (some d,.indexAddr ty x y,dk))[dN P ty E 1 by_ zv](af:bk l x=some (.slice A m c))(aF:bk l y=some (.int k b))
  (aM:b=(j:Nat)) (ax:j<m) (h:U P ops S K p n ((d,(.pointer (some ⟨ob A,0+j,none⟩)))::l) (au F w₀ L)):U P ops S K (.bB fl i p) n l (au F w₀ L):=by
 refine U.zR (fun w hw=>(hw.ms hi).1 (by omega))<|fun bs=>ahu j av af aF aM ax (ajw bs) ?_;rw[abt bs];exact h
theorem km{d:Nat}(q:Nat){E sz j:Nat}{A:aN}{m c:Nat}{xs:cw}{v:aV}(hi:L[q]?=some (own E sz A m c xs))(av:cG ops n l i=some (some d,.load ty x,dk))[One P ty](af:bk l x=some (.pointer (some ⟨ob A,0+j,none⟩)))(br:xs[j]?=some v)
  (h:U P ops S K p n ((d,v)::l) (au F w₀ L)):U P ops S K (.bB false i p) n l (au F w₀ L):=
 c5 av af (fun _ hw=>hw.xy hi br) h
theorem pw(q:Nat){E j:Nat}{A:aN}{m c:Nat}{xs:cw}{v:aV}(hi:L[q]?=some (own E 1 A m c xs))(av:cG ops n l i=some (none,.store ty x y,dk))[One P ty](af:bk l x=some (.pointer (some ⟨ob A,0+j,none⟩)))(aF:bk l y=some v)(br:pn v=true)
  (ax:j<m) (be:∀w,au F w₀ (L.set q (own E 1 A m c (xs.set j v))) w→S w) (h:U P ops S K p n l (au F w₀ (L.set q (own E 1 A m c (xs.set j v))))):U P ops S K (.bB false i p) n l (au F w₀ L):=by
 refine U.zR (fun w hw=>(hw.ms hi).2.2) (fun bc=>?_);rw[dJ] at bc;refine KD av af aF br (fun _ hw=>⟨⟨_,hw.xy hi (eF (by omega))⟩,hw.H3 hi (by omega),hw.NG hi (by omega)⟩) be h
theorem fH{d:Nat}(j:Nat){E sz by_:Nat}{zv:aV}{A:aN}{m c:Nat}{k:cg}{b:Int}{vs:cw}(br:∀w,C w→Has (aP sz A m vs) w)(av:cG ops n l i=some (some d,.indexAddr ty x y,dk))[dN P ty E sz by_ zv](af:bk l x=some (.slice A m c))(aF:bk l y=some (.int k b))
  (aM:b=(j:Nat)) (ax:j<m) (h:U P ops S K p n ((d,(.pointer (some ⟨ob A,ju A+j*sz,none⟩)))::l) C):U P ops S K (.bB fl i p) n l C:=by
 refine U.zR (fun w hw=>(br w hw).yV (by omega)) (fun bs=>?_);subst aM;have e:=uD (P:=P) (ops:=ops) (S:=S) (K:=K) (p:=p) (n:=n) (l:=l) (C:=C) (fl:=fl) (i:=i) (g:=ob A) (o:=ju A) (m:=m) (c:=c) (k:=k) (j:=((j:Nat):Int)) av (by rw[←bs];exact af) aF (by omega);simp only[jK] at e;exact e h
theorem jN{d sz j:Nat}{A:aN}{m:Nat}{vs:cw}{v:aV}(br:∀w,C w→Has (aP sz A m vs) w)(av:cG ops n l i=some (some d,.load ty x,dk))[One P ty](af:bk l x=some (.pointer (some ⟨ob A,ju A+j,none⟩)))(ax:vs[j]?=some v)(hm:m≠0)
  (h:U P ops S K p n ((d,v)::l) C):U P ops S K (.bB false i p) n l C:=
 c5 av af (fun w hw=>((br w hw).xT hm ax).2) h
theorem yn{d sz j:Nat}{A:aN}{m:Nat}{vs:cw}{v:aV}(br:∀w,S w→Has (aP sz A m vs) w)(av:cG ops n l i=some (some d,.load ty x,dk))[One P ty](af:bk l x=some (.pointer (some ⟨ob A,ju A+j,none⟩)))(ax:vs[j]?=some v)(hm:m≠0)
  (h:U P ops S K p n ((d,v)::l) C):U P ops S K (.bB true i p) n l C:=
 dc av af (fun w hw=>((br w hw).xT hm ax).2) h
end
section
variable{P:a8}{ops:Array Oper}{S:ao→Prop}{K:Act→ao→Prop}{p:eR}{n:Nat}{l:List (Nat×aV)}{C:ao→Prop}{fl:Bool}{i:Nat}{ty:aO}{x y:bf}{eD:Array aO}
theorem Vn{w:ao}(k cb:cg)(a b:Int):(Builtin.min_ eD ty #[.int k a,.int cb b]).run P w=.ok (.int k (if b<a then b else a)) w:=by
 simp[Builtin.min_,Builtin.min2]
theorem ZV{w:ao}(k cb:cg)(a b:Int):(Builtin.max_ eD ty #[.int k a,.int cb b]).run P w=.ok (.int k (if b>a then b else a)) w:=by
 simp[Builtin.max_,Builtin.max2]
theorem wL{d:Nat}{k cb:cg}{a b r:Int}(av:cG ops n l i=some (some d,.call ⟨.builtin .min, #[x,y],eD⟩,ty))(af:bk l x=some (.int k a))(aF:bk l y=some (.int cb b))(aH:(if b<a then b else a)=r)
  (h:U P ops S K p n ((d,(.int k r))::l) C):U P ops S K (.bB fl i p) n l C:=
 U.pure av (fun e w o he aa _=>by
  subst aH;simp only[execOp,aa,resolve,Sem.run_bind,Sem.run_pure,Result.andThen_ok,invoke,builtin,oH,hW,lm,he.bk af,he.bk aF,Vn]) h
theorem LY{d:Nat}{k cb:cg}{a b r:Int}(av:cG ops n l i=some (some d,.call ⟨.builtin .max, #[x,y],eD⟩,ty))(af:bk l x=some (.int k a))(aF:bk l y=some (.int cb b))(aH:(if b>a then b else a)=r)
  (h:U P ops S K p n ((d,(.int k r))::l) C):U P ops S K (.bB fl i p) n l C:=
 U.pure av (fun e w o he aa _=>by
  subst aH;simp only[execOp,aa,resolve,Sem.run_bind,Sem.run_pure,Result.andThen_ok,invoke,builtin,oH,hW,lm,he.bk af,he.bk aF,ZV]) h
end
end Go.a6
end
section
namespace Go.a6
open Go Go.ChangeShapes Go.WideShapes
def ints(k:cg)(l:b3):cw:=l.map (Value.int k)
def aA(k:cg)(l:ae):cw:=l.map (fun x=>Value.int k (x:Nat))
theorem qB{w:ao}{A:aN}{n:Nat}{k:cg}{l:b3}(h:Has (aP 1 A n (ints k l)) w):l.length=n:=by
 have:=h.hE;simpa[ints] using this
theorem kc{w:ao}{A:aN}{n:Nat}{k:cg}{l:ae}(h:Has (aP 1 A n (aA k l)) w):l.length=n:=by
 have:=h.hE;simpa[aA] using this
theorem Xu(k:cg)(l:b3):(ints k l).all (·.oneCell')=true:=by
 simp[ints,Value.oneCell']
theorem mz(k:cg)(l:ae):(aA k l).all (·.oneCell')=true:=by
 simp[aA,Value.oneCell']
theorem qv{k:cg}{l:b3}{i:Nat}(h:i<l.length):(ints k l)[i]?=some (.int k (l.getD i 0)):=by
 simp[ints,h]
theorem Ez{k:cg}{l:ae}{i:Nat}(h:i<l.length):(aA k l)[i]?=some (.int k (l.getD i 0:Nat)):=by
 simp[aA,h]
theorem vl(k:cg)(l:ae):aA k l=ints k (l.map Int.ofNat):=by simp[aA,ints]
theorem Has.su{w:ao}{sz n:Nat}{A:aN}{vs:cw}(h:Has (aP sz A n vs) w){q:Nat}(aM:q≤n):Has (aP sz A q (vs.take (q*sz))) w:=by
 obtain⟨D,⟨aa,ab⟩,an⟩:=h;refine⟨D,⟨?_,fun aQ=>?_⟩,an⟩
 ·rw[fW,aa];exact kx (xo _ aM)
 ·obtain⟨k1,k2,bx⟩:=ab (by omega);refine⟨k1,k2,fun j v ax=>?_⟩;rw[mj] at ax;split at ax
  ·exact bx j v ax
  ·cases ax
theorem M0{H:Type}{enc:aO×aV→H}{P:a8}{W:ao}{base kU:Nat}{spare:Nat→Bool}{held:Bool}{t e:aO}{k:cg}{v:aV}{d:DataW H}{ps:List MemPlace}
  (bb:P.underlying t=some (.slice e)) (he:P.underlying e=some (.int k)) (ag:P.cellsOf e=1) (nl:Value.okWide P W .any kU t v) (aW:DataW.Trod enc P W base spare held t v d ps):
  ∃A n c gY,v=.slice A n c∧n≤c∧(c:Int)≤9223372036854775807∧gY.length=n∧Has (aP 1 A n (ints k gY)) W∧∀z∈gY,(Lit.int k z).wf=true:=by
 obtain⟨A,n,c,rfl⟩:=okWide_slice bb nl;obtain⟨ln,aI⟩:=aW;rcases open_ints bb he ag aI with⟨k8,_⟩|⟨a,len,cap,gY,k8,_,bc,hm,aL,_,yb,hw⟩
 ·have CC:[Value.slice A n c]=[.slice none 0 0]:=k8;simp only[Rb,Value.slice.injEq,and_true] at CC;obtain⟨rfl,rfl,rfl⟩:=CC;exact⟨none,0,0,[],I,cq _,by omega,I,Has.Io W 1 none,fun z aL=>by simp at aL⟩
 ·have CC:[Value.slice A n c]=[.slice (some a) len cap]:=k8;simp only[Rb,Value.slice.injEq,and_true] at CC;obtain⟨rfl,rfl,rfl⟩:=CC;have nt:=nl;unfold Value.okWide at nt;simp only[bb] at nt;unfold Cell.okWide at nt;simp only[bb] at nt;unfold Cell.ok at nt;simp only[bb] at nt;obtain⟨_,RA,_,awK,_⟩:=nt;have amN:n≤gY.length:=by rw[aL];split<;>omega
  have hlen:(gY.take n).length=n:=by rw[fW];exact kx amN
  refine⟨some a,n,c,gY.take n,I,bc,RA,hlen,?_,fun z aL=>hw z (n9 aL)⟩;by_cases aQ:n=0
  ·subst aQ;exact Has.Io W 1 (some a)
  ·have aB:=yb 0 (by omega);have aj:a=⟨a.block,a.off,none⟩:=by cases a;simp_all
   refine⟨fun b=>b=a.block,⟨by simp only[ints,iK,hlen,dJ],fun _=>⟨by simp only[ob,ju];rw[←aj],rfl,fun j v ax=>?_⟩⟩,fun b ad=>?_⟩
   ·have xw:j<n:=by
     have:=(j6.1 ax).1;simp only[ints,iK,hlen] at this;exact this
    rw[qv (by omega)] at ax;have cR:=yb j (by omega);rw[aj,lB] at cR;simp only[ob,ju];rw[cR,←ax];simp[xw]
   ·subst ad;have cR:=yb 0 (by omega);have:=World.block_lt_of_cell? W _ cR;rwa [block_add] at this
end Go.a6
end
section
namespace Go.Proofs.YtcgjepodnfjggaaGreatDoor
open Go.a6
set_option maxRecDepth 100000
end Go.Proofs.YtcgjepodnfjggaaGreatDoor
end
section
namespace Go.Proofs.YtcgjepodnfjggaaGreatDoor
open Go.a6 Go.cv
section
variable{m:Nat}
theorem ad9{a b:Nat}:∀{k:Nat},b>>>k=0→∀j,hb m a b (k+j)=hb m a b k:=by
 intro k ah j;induction j with
 |zero=>rfl
 |succ j ih=>
  have aa:b.testBit (k+j)=false:=by
   rw[←LF,ah];simp
  rw[←Bc];simp[hb,aa,ih]
theorem akR{a b k:Nat}(h:b>>>k=0)(ah:k≤m):hb m a b k=ba m a b:=by
 obtain⟨j,rfl⟩:=O7 ah;exact(ad9 h j).symm
theorem ame{b k:Nat}(ad:b<2^m)(h:0<b>>>k):k<m:=by
 rcases II k m with aa|aa
 ·exact aa
 ·rw[jp,BC (h6 ad (px (by omega) aa))] at h;omega
def fO(m a:Nat):Nat→Nat
 |0=>1
 |n+1=>ba m (fO m a n) a
theorem kC(h:Ok m):1<2^m:=Nat.one_lt_two_pow (by have:=h.lo;omega)
theorem rS(h:Ok m)(a n:Nat):fO m a n<2^m:=by
 induction n with
 |zero=>exact kC h
 |succ n ih=>exact eL h ih _
theorem Xg(h:Ok m){a:Nat}(aj:a<2^m)(i j:Nat):fO m a (i+j)=ba m (fO m a i) (fO m a j):=by
 induction j with
 |zero=>rw[wW];exact(ur h (rS h a i)).symm
 |succ j ih=>rw[←Bc];show ba m (fO m a (i+j)) a=_;rw[ih,h0 h (rS h a i) (rS h a j) aj];rfl
theorem Ve(h:Ok m){a:Nat}(aj:a<2^m)(n:Nat):fO m (ba m a a) n=fO m a (2*n):=by
 induction n with
 |zero=>rfl
 |succ n ih=>
  have e:2*(n+1)=2*n+1+1:=by omega
  rw[e];show ba m (fO m (ba m a a) n) (ba m a a)=ba m (ba m (fO m a (2*n)) a) a;rw[ih,h0 h (rS h a _) aj aj]
theorem XS(h:Ok m)(i n:Nat):fO m (ex m i) n=ex m (i*n):=by
 induction n with
 |zero=>rfl
 |succ n ih=>show ba m (fO m (ex m i) n) (ex m i)=_;rw[ih,wF h,FM]
theorem R8(h:Ok m){a:Nat}(aj:a<2^m)(aB:a≠0)(n:Nat):fO m a n=ex m (hZ m a*n):=by
 have ab:=(BH h (by omega:1≤a) aj).2;have:=XS h (hZ m a) n;rw[ab] at this;exact this
theorem atH(l:Nat)(n:Int)(h:Ok m):em m ((l:Nat)*n)=(l*em m n)%N m:=by
 have aG:=gS h;have aa:=ng n (b:=((N m:Nat):Int)) (by omega);rw[←yp (m:=m)];apply Gj;unfold em;rw[zA,Fb aa,Gc,Gc ((l:Nat):Int) (n%_),G6]
theorem ajp(h:Ok m){a:Nat}(aj:a<2^m)(aB:a≠0)(n:Int):tC m a n=fO m a (em m n):=by
 unfold tC;rw[az aB,R8 h aj aB,atH _ _ h,Cb h]
theorem afH(h:Ok m){a:Nat}(aj:a<2^m)(aB:a≠0):inv m a=fO m a (N m- 1):=by
 have aG:=gS h;rw[R8 h aj aB];unfold inv;rw[acQ h];have e:em m (-(hZ m a:Nat))=em m ((hZ m a*(N m- 1):Nat)):=by
  apply Gj;rw[zA,Int.natCast_sub (by omega)];have: -((hZ m a:Nat):Int)=(hZ m a:Nat)*((N m:Nat)- 1)- (hZ m a:Nat)*(N m:Nat):=by rw[Int.mul_sub,Int.mul_one];omega
  rw[this,Bi,Int.mul_emod_left];simp
 rw[e,yp,FP]
theorem asB(h:Ok m):2<2^m:=by
 have:=px (n:=2) (by omega) h.lo;omega
theorem ae2(h:Ok m):ex m 1=2:=by
 have aa:=UZ h (k:=1) (by have:=h.lo;omega);exact aa
theorem acq(h:Ok m):hZ m 2=1:=by
 have aG:=gS h;have:=Yy h (i:=1) (by omega);rw[ae2 h] at this;exact this
theorem aqY(h:Ok m)(n:Int):tC m 2 n=ex m (em m n):=by
 unfold tC;rw[az (by omega),acq h];simp
end
section
variable{m:Nat}
theorem Hk{x:Nat}(af:x<2^63):gX .and .i64 (x:Nat) 1=((x%2:Nat):Int):=by
 have:=TJ (x:=x) (y:=1) af (by decide);rw[Dk] at this;exact this
theorem Nr(b k:Nat):(b>>>k)%2=1↔b.testBit k=true:=by
 rw[uT,jp];simp
theorem Te(_h:Ok m){x:Nat}(af:x<2^m):((2*x)>>>m)%2=1↔2^m≤2*x:=by
 rw[Nr,CM (by rw[x4];omega)];simp
theorem alD{a b k:Nat}(ag:(((b>>>k)%2:Nat):Int)=1):hb m a b (k+1)=hb m a b k^^^eZ m k a:=by
 have:=(Nr b k).1 (by omega);simp[hb,this]
theorem afA{a b k:Nat}(ag:¬(((b>>>k)%2:Nat):Int)=1):hb m a b (k+1)=hb m a b k:=by
 have:b.testBit k=false:=by
  cases ad:b.testBit k with
  |false=>rfl
  |true=>exact absurd (by have:=(Nr b k).2 ad;omega) ag
 simp[hb,this]
theorem ahG(h:Ok m){a k:Nat}(aj:a<2^m)(ag:((((2*eZ m k a)>>>m)%2:Nat):Int)=1):eZ m (k+1) a=(2*eZ m k a)^^^ou m:=by
 have aa:=(Te h (yK h k aj)).1 (by omega);show iJ m (eZ m k a)=_;rw[w0,aD aa]
theorem ahX(h:Ok m){a k:Nat}(aj:a<2^m)(ag:¬((((2*eZ m k a)>>>m)%2:Nat):Int)=1):eZ m (k+1) a=2*eZ m k a:=by
 have aa:¬2^m≤2*eZ m k a:=fun ab=>ag (by have:=(Te h (yK h k aj)).2 ab;omega);show iJ m (eZ m k a)=_;rw[w0,az aa]
theorem Yp(b k:Nat):(b>>>k)>>>1=b>>>(k+1):=(Nat.shiftRight_add b k 1).symm
theorem wG(h:Ok m):2^m≤16384:=Nat.pow_le_pow_right (n:=2) (by omega) h.hi
end
section
variable{m:Nat}
theorem Wu(h:Ok m){a b:Nat}(aj:a<2^m)(ad:b<2^m):ba m (a^^^b) (a^^^b)=ba m a a^^^ba m b b:=by
 rw[zQ h aj ad,z8,z8,kH h ad aj];rw[h5,←h5 (ba m a b),jy,hQ]
end
def fA:ae→Nat
 |[]=>0
 |x::r=>if fA r=0 then(if x=0 then 0 else 1) else fA r+1
def trim(l:ae):ae:=l.take (fA l)
def ap(l:ae)(j:Nat):Nat:=l.getD j 0
theorem lQ:∀l:ae,fA l≤l.length
 |[]=>cq _
 |x::r=>by
  have:=lQ r;unfold fA;simp only[iG];split
  ·split<;>omega
  ·omega
theorem kY(l:ae):(trim l).length=fA l:=by
 unfold trim;rw[fW];exact kx (lQ l)
theorem lp(j:Nat):ap [] j=0:=by simp[ap]
theorem pC(x:Nat)(r:ae):ap (x::r) 0=x:=by simp[ap]
theorem jF(x:Nat)(r:ae)(j:Nat):ap (x::r) (j+1)=ap r j:=by simp[ap]
theorem dD{l:ae}{j:Nat}(h:l.length≤j):ap l j=0:=by simp[ap,List.getElem?_eq_none h]
theorem p7{l:ae}{j:Nat}(h:j<l.length):l[j]?=some (ap l j):=by simp[ap,h]
theorem zw:∀(l:ae) (j:Nat),fA l≤j→ap l j=0
 |[],j,_=>lp j
 |x::r,0,h=>by
  rw[pC];unfold fA at h;split at h
  ·split at h
   ·assumption
   ·omega
  ·omega
 |x::r,j+1,h=>by
  rw[jF];refine zw r j ?_;unfold fA at h;split at h
  ·omega
  ·omega
theorem DC:∀l:ae,fA l≠0→ap l (fA l- 1)≠0
 |[],h=>absurd rfl h
 |x::r,h=>by
  by_cases aH:fA r=0
  ·by_cases af:x=0
   ·exact absurd (by simp[fA,aH,af]) h
   ·have:fA (x::r)=1:=by simp[fA,aH,af]
    rw[this];exact af
  ·have:fA (x::r)=fA r+1:=by simp[fA,aH]
   rw[this];have ab:=DC r aH;rw[show fA r+1- 1=(fA r- 1)+1 by omega,jF];exact ab
theorem ace{a b:ae}(h:∀j,ap a j=ap b j):fA a≤fA b:=by
 by_cases aB:fA a=0
 ·omega
 ·have aa:=DC a aB;rw[h] at aa;exact nV (fun ca=>aa (zw b _ (by omega)))
theorem ajd{a b:ae}(h:∀j,ap a j=ap b j):fA a=fA b:=Nat.le_antisymm (ace h) (ace (fun j=>(h j).symm))
theorem xn(l:ae)(j:Nat):ap (trim l) j=ap l j:=by
 by_cases h:j<fA l
 ·unfold ap trim;simp only[eM];rw[mj,aD h]
 ·rw[zw l j (by omega),dD (by rw[kY];omega)]
theorem arQ{a b:ae}(bc:a.length=b.length)(h:∀j,ap a j=ap b j):a=b:=by
 apply jB;intro j;by_cases ax:j<a.length
 ·rw[p7 ax,p7 (by omega),h]
 ·rw[iq (by omega),iq (by omega)]
theorem HJ{a b:ae}(h:∀j,ap a j=ap b j):trim a=trim b:=by
 refine arQ ?_ (fun j=>by rw[xn,xn,h]);rw[kY,kY,ajd h]
theorem G8(l:ae):trim (trim l)=trim l:=HJ (xn l)
theorem D5{l:ae}(h:fA l=l.length):trim l=l:=by unfold trim;rw[h,List.take_length]
theorem U7:∀(l:ae) (x:Nat),fA (l++[x])=if x=0 then fA l else l.length+1
 |[],x=>by simp[fA]
 |y::l,x=>by
  have ih:=U7 l x;show fA (y::(l++[x]))=_;unfold fA;rw[ih];by_cases af:x=0
  ·simp[af]
  ·simp[af]
theorem Dj{l:ae}{b:Nat}(h:∀x∈l,x<b):∀x∈trim l,x<b:=fun x af=>h x (List.mem_of_mem_take af)
def pl(n:Nat)(f:Nat→Nat):ae:=trim ((List.range n).map f)
theorem Cw(n:Nat)(f:Nat→Nat)(j:Nat):ap ((List.range n).map f) j=if j<n then f j else 0:=by
 unfold ap;by_cases h:j<n
 ·simp[h]
 ·simp[h]
theorem jh(n:Nat)(f:Nat→Nat)(j:Nat):ap (pl n f) j=if j<n then f j else 0:=by
 unfold pl;rw[xn,Cw]
theorem Ih{n k:Nat}{f g:Nat→Nat}(h:∀j,(if j<n then f j else 0)=if j<k then g j else 0):pl n f=pl k g:=by
 unfold pl;exact HJ (fun j=>by rw[Cw,Cw,h])
theorem afB(n:Nat)(f:Nat→Nat):trim (pl n f)=pl n f:=G8 _
def xs(f:Nat→Nat):Nat→Nat
 |0=>0
 |n+1=>xs f n^^^f n
theorem hz{f g:Nat→Nat}:∀{n:Nat},(∀i,i<n→f i=g i)→xs f n=xs g n
 |0,_=>rfl
 |n+1,h=>by
  unfold xs;rw[hz (fun i hi=>h i (by omega)),h n (by omega)]
theorem pO{f:Nat→Nat}:∀{n:Nat},(∀i,i<n→f i=0)→xs f n=0
 |0,_=>rfl
 |n+1,h=>by
  unfold xs;rw[pO (fun i hi=>h i (by omega)),h n (by omega),eS]
theorem AN{f:Nat→Nat}{n:Nat}:∀{k:Nat},(∀i,n≤i→f i=0)→xs f (n+k)=xs f n
 |0,_=>rfl
 |k+1,h=>by
  show xs f (n+k)^^^f (n+k)=_;rw[AN h,h _ (by omega),eS]
theorem ack{f:Nat→Nat}{n k:Nat}(aa:∀i,n≤i→f i=0)(ab:∀i,k≤i→f i=0):xs f n=xs f k:=by
 rcases Nat.le_total n k with h|h
 ·rw[show k=n+(k- n) by omega,AN aa]
 ·rw[show n=k+(n- k) by omega,AN ab]
theorem AK(f g:Nat→Nat):∀n,xs (fun i=>f i^^^g i) n=xs f n^^^xs g n
 |0=>by simp[xs]
 |n+1=>by
  unfold xs;rw[AK f g n,h5,h5,BU (xs g n)]
theorem xO{f:Nat→Nat}{m:Nat}:∀{n:Nat},(∀i,i<n→f i<2^m)→xs f n<2^m
 |0,_=>eI m
 |n+1,h=>mY (xO (fun i hi=>h i (by omega))) (h n (by omega))
theorem Hy(f:Nat→Nat→Nat)(n:Nat):∀k,xs (fun i=>xs (fun j=>f i j) k) n=xs (fun j=>xs (fun i=>f i j) n) k
 |0=>pO (fun _ _=>rfl)
 |k+1=>by
  show xs (fun i=>xs (fun j=>f i j) k^^^f i k) n=xs (fun j=>xs (fun i=>f i j) n) k^^^xs (fun i=>f i k) n;rw[AK,Hy f n k]
theorem CU(f:Nat→Nat):∀n,xs f (n+1)=f 0^^^xs (fun i=>f (i+1)) n
 |0=>by simp[xs]
 |n+1=>by
  show xs f (n+1)^^^f (n+1)=_;rw[CU f n,h5];rfl
theorem Vx(f:Nat→Nat):∀n,xs f n=xs (fun i=>f (n- 1- i)) n
 |0=>rfl
 |n+1=>by
  rw[CU (fun i=>f (n+1- 1- i)) n];show xs f n^^^f n=f (n+1- 1- 0)^^^_;rw[oR,Vx f n];congr 1;apply hz;intro i _;congr 1;omega
section
variable{m:Nat}
theorem A1(m a:Nat)(f:Nat→Nat):∀n,ba m a (xs f n)=xs (fun i=>ba m a (f i)) n
 |0=>jn m a
 |n+1=>by
  unfold xs;rw[z8,A1 m a f n]
theorem Ao(h:Ok m){f:Nat→Nat}(b:Nat):∀n,(∀i,i<n→f i<2^m)→ba m (xs f n) b=xs (fun i=>ba m (f i) b) n
 |0,_=>et m b
 |n+1,aI=>by
  unfold xs;rw[zQ h (xO (fun i hi=>aI i (by omega))) (aI n (by omega)),Ao h b n (fun i hi=>aI i (by omega))]
end
end Go.Proofs.YtcgjepodnfjggaaGreatDoor
end
section
namespace Go.Proofs.YtcgjepodnfjggaaGreatDoor
open Go.a6 Go.cv
set_option maxRecDepth 100000
def uQ(r g m:Nat):bi where
 ok w D:=D r∧w.cell? ⟨r,0,none⟩=some (.pointer (some ⟨g,0,none⟩))∧(fL g m).ok w D
 loc:=fun⟨aa,ab,an⟩ ad=>⟨aa,(World.cell?_of_block (ad _ aa)).trans ab,(fL _ _).loc an ad⟩
theorem DV{w:ao}{r g m:Nat}(h:Has (uQ r g m) w):w.cell? ⟨r,0,none⟩=some (.pointer (some ⟨g,0,none⟩))∧Has (fL g m) w:=
 let ⟨D,⟨_,ab,an⟩,aK⟩:=h
 ⟨ab,D,an,aK⟩
theorem ams{w:ao}{g m:Nat}{D gk:Nat→Prop}(h:(fL g m).ok w D)(aW:∀k,D k→gk k):(fL g m).ok w gk:=by
 obtain⟨ge,e5,aa,ab,an,aK⟩:=h;exact⟨ge,e5,aW _ aa,aW _ ab,aW _ an,aK⟩
theorem Jc{w:ao}{r g m T:Nat}(aI:Has (fL g m) w)(ad:Has (aE r T #[.pointer (some ⟨g,0,none⟩)]) w):Has (uQ r g m) w:=by
 obtain⟨D,aa,ab⟩:=aI;obtain⟨gk,⟨an,aK⟩,bo⟩:=ad;refine⟨fun k=>D k∨gk k,⟨.inr ((an r).2 I),by rw[qC aK];rfl,ams aa (fun k=>.inl)⟩,fun k ah=>ah.elim (ab k) (bo k)⟩
abbrev pV(P:a8)(f:dn)(args:cw)(w:ao)(E:ae):Prop:=
 fh P f args w (X:=aN×Nat) (fun q=>.slice q.1 E.length q.2) (fun q=>E.length≤q.2) (fun q=>[own 3 1 q.1 E.length q.2 (aA .i64 E)])
def bz(m:Nat)(l:b3):ae:=l.map (lo m)
theorem sC(m:Nat)(l:b3):(bz m l).length=l.length:=by simp[bz]
theorem HN(m:Nat):lo m 0=0:=by unfold lo;simp
theorem CL(m:Nat)(l:b3)(j:Nat):ap (bz m l) j=lo m (l.getD j 0):=by
 by_cases h:j<l.length
 ·simp[ap,bz,h]
 ·simp[ap,bz,h,HN]
theorem EY(m:Nat)(l:b3):∀x∈bz m l,x<2^m:=by
 intro x af;obtain⟨y,_,rfl⟩:=gE.1 af;exact lJ m y
theorem YS(m:Nat)(l:b3){i:Nat}(h:i<l.length):bz m (l.take (i+1))=bz m (l.take i)++[lo m (l.getD i 0)]:=by
 have aa:l.take (i+1)=l.take i++[l.getD i 0]:=by
  rw[pN];simp[h]
 unfold bz;rw[aa,n3];rfl
def qq(m:Nat)(l:b3)(i:Nat):cJ:=((List.range l.length).map (fun j=>.int .i64 ((if j<i then lo m (l.getD j 0) else 0:Nat)))).toArray
theorem amI(m:Nat)(l:b3):(List.replicate l.length (.int .i64 0)).toArray=qq m l 0:=by
 rw[Qr];unfold qq;simp
theorem aaA(m:Nat)(l:b3)(i:Nat):(qq m l i).size=l.length:=by simp[qq]
theorem RN(m:Nat)(l:b3)(i:Nat):(qq m l i).setIfInBounds i (.int .i64 (lo m (l.getD i 0):Nat))=qq m l (i+1):=by
 unfold qq;rw[O6];congr 1;apply m1;intro j _;by_cases h:j=i
 ·subst h;simp
 ·rw[az h];by_cases ab:j<i
  ·rw[aD ab,aD (by omega)]
  ·rw[az ab,az (by omega)]
theorem ahm(m:Nat)(l:b3){i k:Nat}(h:k<i)(ah:k<l.length):(qq m l i)[k]?=some (.int .i64 (lo m (l.getD k 0):Nat)):=by
 unfold qq;simp[ah,h]
theorem anJ(m:Nat)(l:b3):(qq m l l.length).toList=aA .i64 (bz m l):=by
 unfold qq aA bz;apply jB;intro j;by_cases ax:j<l.length
 ·simp[ax]
 ·simp[ax]
theorem xE(k:cg)(l:ae)(n:Nat):(aA k l).take n=aA k (l.take n):=by simp[aA,List.map_take]
theorem asF(m:Nat)(l:b3):(qq m l l.length).toList.take ((trim (bz m l)).length*1)=aA .i64 (trim (bz m l)):=by
 rw[anJ,xE,dJ,kY];rfl
theorem Has.gK{w:ao}{sz n:Nat}{A:aN}{vs ru:cw}(h:Has (aP sz A n vs) w)(he:vs=ru):Has (aP sz A n ru) w:=by rw[←he];exact h
theorem GC(g:Nat)(w:ao):fh Tryz.prog 137 [.pointer (some ⟨g,0,none⟩)] w (X:=Nat) (fun r=>.pointer (some ⟨r,0,none⟩)) (fun _=>True) (fun r=>[aE r 330 #[.pointer (some ⟨g,0,none⟩)]]):=by
 exact b8 Tryz.func137 I Tryz.ntmps137 I<|J.aw 1 I<|ak I I<|U.bl 4 I<|ac I I<|gl I I I<|fx I I aJ<|fun r=>ak I I<|U.next<|J.ret<|al.ret Tryz.results137 I (fun w hw=>⟨r,I,trivial,hw⟩)
theorem zt(r g m:Nat)(A:aN)(n c:Nat)(l:b3)(w:ao)(hm:Ok m)(aH:Has (uQ r g m) w)(aj:Has (aP 1 A n (ints .i64 l)) w)(aQ:n≤4294967296):pV Tryz.prog 197 [.pointer (some ⟨r,0,none⟩),.slice A n c] w (trim (bz m l)):=by
 obtain⟨wc,aI⟩:=DV aH;have eA:=qB aj;subst eA;have BJ:=lQ (bz m l);have mI:=sC m l;refine b8 Tryz.func197 I Tryz.ntmps197 I<|J.aw 1 I<|ak I I<|U.bl 4 I<|ac I I<|cf I I<|lP l.length I I I I I (by omega) aJ<|fun gs=>ak I I<|U.bl 1 I<|ak I I<|U.next<|J.seq<|J.aw 3 I<|ac I I<|cf I I<|ac I I<|U.next<|J.block<|J.loop (G:=Nat×Nat) (fun q=>[(0,.pointer (some ⟨r,0,none⟩)),(5,.slice (some ⟨gs,0,none⟩) l.length l.length),(6,.int .i64 (q.2:Nat)),(12,.slice A l.length c),(13,.int .i64 (l.length:Nat)),(14,.int .i64 (q.1:Nat))]) (fun q=>bF w [aE gs 3 (qq m l q.1)]) (fun q=>q.1≤l.length∧q.2=fA (bz m (l.take q.1))) (fun q=>l.length- q.1) (0,0) ⟨I,I,I,I,I,I,trivial⟩ (fun _ h=>by rw[←amI];exact h) ⟨dg _,I⟩ ?_;rintro⟨i,k⟩ ⟨hi,ah⟩;simp only at hi ah;refine J.aw 1 I<|cQ I I I I<|U.next<|J.seq ?_;refine J.test I (fun ag=>?_) (fun ag=>?_)
 ·have mN:i<l.length:=by omega
  have GO:=U7 (bz m (l.take i)) (lo m (l.getD i 0));rw[←YS m l mN] at GO;have agb:(bz m (l.take i)).length=i:=by rw[sC,fW];omega
  refine J.skip<|al.code<|J.seq<|J.block<|J.aw 5 I<|ac I I<|fH i (fun w hw=>hw.a7 aj) I I I I mN<|jN (fun w hw=>hw.a7 aj) I I (by rw[dJ];exact qv mN) (by omega)<|ak I I<|ak I I<|U.bl 10 I<|ac I I<|ac I I<|ac I I<|bI I I<|bd I I<|c5 I I (fun _ h=>h.cell wc)<|ac I I<|bJ I I I I (v:=.int .i64 (lo m (l.getD i 0):Nat)) (fun w hw=>by have:=O8 g m (l.getD i 0) 0 w hm (hw.a7 aI);rw[HN,eS] at this;exact this) aJ<|eP i I I I I mN<|eh 0 I I I I I (by rw[aaA];exact mN) aJ<|U.bl 5 I<|ac I I<|ac I I<|eP i I I I I mN<|cm 0 I I I (by rw[RN];exact ahm m l (k3 i) mN)<|jT I I I I<|U.next ?_;refine J.test I (fun ag=>?_) (fun ag=>?_)
  ·exact J.rg 3 I<|ac I I<|b1 I I I (r:=((i+1:Nat):Int)) (bm (by omega))<|ak I I<|U.end_<|al.aE<|al.code<|J.rg 2 I<|b1 I I I (r:=((i+1:Nat):Int)) (bm (by omega))<|ac I I<|U.end_<|al.back (i+1,i+1) ⟨I,I,I,I,I,I,trivial⟩ (fun _ h=>by rw[←RN];exact h) ⟨mN,by rw[GO,az (by omega),agb]⟩ (by simp only;omega)
  ·exact J.skip<|al.aE<|al.code<|J.rg 2 I<|b1 I I I (r:=((i+1:Nat):Int)) (bm (by omega))<|ac I I<|U.end_<|al.back (i+1,k) ⟨I,I,I,I,I,I,trivial⟩ (fun _ h=>by rw[←RN];exact h) ⟨mN,by rw[GO,aD (by omega)];exact ah⟩ (by simp only;omega)
 ·obtain rfl:i=l.length:=by omega
  rw[m4] at ah;have oA:=kY (bz m l);exact J.exit I<|al.code<|J.aw 5 I<|ac I I<|ac I I<|oJ (trim (bz m l)).length I I I (by rw[ah,oA]) (by omega)<|s0 I I I (ys:=aA .i64 (trim (bz m l))) (fun w hw=>Has.gK (((hw.has (i:=0) I).kI (m:=l.length) (by rw[aaA,dJ])).su (by omega)) (asF m l)) (mz _ _) I (by omega) (by unfold maxLen;omega) (by omega) (fun _ _ _ _=>trivial)<|fun bw c2 cR=>ak rfl rfl<|U.next<|J.ret<|al.ret Tryz.results197 rfl (fun w hw=>⟨(bw,c2),rfl,cR,hw.pick [0] rfl⟩)
def ft(n:Nat)(F:Nat→Int):b3:=(List.range n).map F
theorem ar4(n:Nat)(F:Nat→Int):(ft n F).length=n:=by simp[ft]
theorem FZ{n:Nat}{F G:Nat→Int}(h:∀j,j<n→F j=G j):ft n F=ft n G:=by
 unfold ft;apply m1;intro j ax;exact h j (pT.1 ax)
theorem aj9(n:Nat)(F:Nat→Int)(j:Nat):(ft n F).getD j 0=if j<n then F j else 0:=by
 unfold ft;by_cases h:j<n<;>simp[h]
theorem ao4(l:b3):ft l.length (fun j=>l.getD j 0)=l:=by
 apply jB;intro j;unfold ft;by_cases h:j<l.length<;>simp[h]
theorem Mi{k:cg}{n j:Nat}{F:Nat→Int}(h:j<n):(ints k (ft n F))[j]?=some (.int k (F j)):=by
 rw[qv (by rw[ar4];exact h),aj9,aD h]
theorem aal{k:cg}{n j:Nat}{F:Nat→Int}(h:j<n):(ints k (ft n F)).toArray[j]?=some (.int k (F j)):=by
 rw[yN];exact Mi h
theorem FB{k:cg}{n:Nat}{F:Nat→Int}:(ints k (ft n F)).toArray.size=n:=by simp[ints,ft]
theorem Qm{k:cg}{n i:Nat}{F:Nat→Int}(z:Int):(ints k (ft n F)).set i (.int k z)=ints k (ft n (fun j=>if j=i then z else F j)):=by
 unfold ints ft;apply jB;intro j;rw[rG];by_cases ax:j<n
 ·by_cases kN:i=j
  ·subst kN;simp[ax]
  ·simp[ax,kN,n4 kN]
 ·by_cases kN:i=j
  ·subst kN;simp[ax]
  ·simp[ax,kN]
theorem Qo{k:cg}{n i:Nat}{F:Nat→Int}(z:Int):(ints k (ft n F)).toArray.setIfInBounds i (.int k z)=(ints k (ft n (fun j=>if j=i then z else F j))).toArray:=by
 rw[r4,Qm]
theorem Z5(k:cg)(n:Nat):(List.replicate n (.int k 0)).toArray=(ints k (ft n (fun _=>0))).toArray:=by
 congr 1;unfold ints ft;apply jB;intro j;by_cases h:j<n<;>simp[h]
theorem auj(n:Nat)(f:Nat→Nat):ints .i64 (ft n (fun j=>(f j:Nat)))=aA .i64 ((List.range n).map f):=by
 simp[ints,ft,aA]
theorem H8(m n:Nat)(F:Nat→Int):trim (bz m (ft n F))=pl n (fun j=>lo m (F j)):=by
 unfold pl bz ft;rw[o9];rfl
def cO(a b:ae):ae:=pl (max a.length b.length) (fun j=>ap a j^^^ap b j)
theorem YK(a b:ae):cO a b=cO b a:=by
 unfold cO;rw[Nat.max_comm];congr 1;funext j;exact oR _ _
theorem ey(a b:ae)(j:Nat):ap (cO a b) j=ap a j^^^ap b j:=by
 unfold cO;rw[jh];split
 ·rfl
 ·rw[dD (by omega),dD (by omega)];rfl
def vy(l l2:b3)(i j:Nat):Int:=if j<i then gX .xor .i64 (l.getD j 0) (l2.getD j 0) else l.getD j 0
theorem ajJ{m:Nat}(hm:Ok m)(l l2:b3)(h:l2.length≤l.length):trim (bz m (ft l.length (vy l l2 l2.length)))=cO (bz m l) (bz m l2):=by
 rw[H8];unfold cO;refine Ih (fun j=>?_);rw[sC,sC,Nat.max_eq_left h,CL,CL];split
 ·unfold vy;split
  ·exact SG hm _ _
  ·rw[show l2.getD j 0=0 by simp[iq (show l2.length≤j by omega)],HN,eS]
 ·rfl
theorem au2(l l2:b3)(i:Nat):(fun j=>if j=i then gX .xor .i64 (l.getD i 0) (l2.getD i 0) else vy l l2 i j)=vy l l2 (i+1):=by
 funext j;unfold vy;by_cases h:j=i
 ·subst h;simp
 ·rw[az h];by_cases ab:j<i
  ·rw[aD ab,aD (by omega)]
  ·rw[az ab,az (by omega)]
structure IK where
 A:aN
 c:Nat
 l:b3
structure apw(w:ao)(m:Nat)(a b:b3)(q:IK×IK):Prop where
 aa:Has (aP 1 q.1.A q.1.l.length (ints .i64 q.1.l)) w
 ab:Has (aP 1 q.2.A q.2.l.length (ints .i64 q.2.l)) w
 le:q.2.l.length≤q.1.l.length
 bM:q.1.l.length≤4294967296
 eq:cO (bz m q.1.l) (bz m q.2.l)=cO (bz m a) (bz m b)
theorem afe(r g m:Nat)(A:aN)(n c:Nat)(l:b3)(B:aN)(k d:Nat)(l2:b3)(w:ao)(hm:Ok m)(aH:Has (uQ r g m) w)(aj:Has (aP 1 A n (ints .i64 l)) w)(ad:Has (aP 1 B k (ints .i64 l2)) w)(aQ:n≤4294967296)(ah:k≤4294967296):pV Tryz.prog 206 [.pointer (some ⟨r,0,none⟩),.slice A n c,.slice B k d] w (cO (bz m l) (bz m l2)):=by
 obtain⟨wc,aI⟩:=DV aH;have eA:=qB aj;subst eA;have yk:=qB ad;subst yk;refine b8 Tryz.func206 I Tryz.ntmps206 I<|J.aw 1 I<|ak I I<|U.next ?_;refine J.cut (G:=IK×IK) (fun q=>[(0,.pointer (some ⟨r,0,none⟩)),(1,.slice q.1.A q.1.l.length q.1.c),(2,.slice q.2.A q.2.l.length q.2.c)]) (fun _=>bF w []) (apw w m l l2) ?_ ?_
 ·refine J.aw 5 I<|ac I I<|cf I I<|ac I I<|cf I I<|cQ I I I I<|U.next ?_;refine J.test I (fun ag=>?_) (fun ag=>?_)
  ·exact J.rg 4 I<|ac I I<|ac I I<|ak I I<|ak I I<|U.end_<|al.join (⟨B,d,l2⟩,⟨A,c,l⟩) ⟨I,I,I,trivial⟩ (fun _ h=>h) ⟨ad,aj,by simp only;omega,ah,YK _ _⟩
  ·exact J.skip<|al.join (⟨A,c,l⟩,⟨B,d,l2⟩) ⟨I,I,I,trivial⟩ (fun _ h=>h) ⟨aj,ad,by simp only;omega,aQ,rfl⟩
 ·rintro⟨⟨uy,k0,kD⟩,⟨Es,qz,pY⟩⟩ ⟨an,aK,hle,fZ,o5⟩;simp only at an aK hle fZ o5;refine J.aw 3 I<|ac I I<|s0 (m2:=kD.length) I I I (ys:=ints .i64 kD) (fun w hw=>hw.a7 an) (Xu _ _) I (by omega) (by unfold maxLen;omega) (by omega) (fun _ _ _ _=>trivial)<|fun bw c2 cR=>ak rfl rfl<|U.next<|J.seq<|J.aw 3 rfl<|ac rfl rfl<|cf rfl rfl<|ac rfl rfl<|U.next<|J.block<|J.loop (G:=Nat) (fun i=>[(0,.pointer (some ⟨r,0,none⟩)),(7,.slice bw kD.length c2),(19,.slice Es pY.length qz),(20,.int .i64 (pY.length:Nat)),(21,.int .i64 (i:Nat))]) (fun i=>bF w [own 3 1 bw kD.length c2 (ints .i64 (ft kD.length (vy kD pY i)))]) (fun i=>i≤pY.length) (fun i=>pY.length- i) 0 ⟨rfl,rfl,rfl,rfl,rfl,trivial⟩ (fun _ h=>by rw[show ft kD.length (vy kD pY 0)=kD from ao4 kD];exact h) (dg _) ?_;intro i hi;refine J.aw 1 I<|cQ I I I I<|U.next<|J.seq ?_;refine J.test I (fun ag=>?_) (fun ag=>?_)
  ·exact J.skip<|al.code<|J.seq<|J.block<|J.aw 5 I<|ac I I<|fH i (fun w hw=>hw.a7 aK) I I I I (by omega)<|jN (fun w hw=>hw.a7 aK) I I (by rw[dJ];exact qv (by omega)) (by omega)<|ak I I<|ak I I<|U.next<|J.rg 8 I<|ac I I<|ac I I<|gT 0 i I I I I I (by omega)<|km 0 I I I (v:=.int .i64 (kD.getD i 0)) (by rw[Mi (by omega),vy,az (by omega)])<|ac I I<|dY I I I I I<|gT 0 i I I I I I (by omega)<|pw 0 I I I I I (by omega) aJ<|U.end_<|al.aE<|al.code<|J.rg 2 I<|b1 I I I (r:=((i+1:Nat):Int)) (bm (by omega))<|ac I I<|U.end_<|al.back (i+1) ⟨I,I,I,I,I,trivial⟩ (fun _ h=>by rw[←au2,←Qm];exact h) (by omega) (by omega)
  ·obtain rfl:i=pY.length:=by omega
   exact J.exit I<|al.code<|J.aw 4 I<|ac I I<|ac I I<|dh I I I I (fun w hw=>by have:=zt r g m bw kD.length c2 (ft kD.length (vy kD pY pY.length)) w hm (hw.a7 aH) (hw.has (i:=0) I).dw (by omega);rw[ajJ hm kD pY hle,o5] at this;exact this) aJ<|fun q aM=>ak I I<|U.next<|J.ret<|al.ret Tryz.results206 I (fun w hw=>⟨q,I,aM,hw.pick [0] I⟩)
def gU(m:Nat)(a:ae)(x:Nat):ae:=pl a.length (fun j=>ba m (ap a j) x)
theorem oN(m:Nat)(a:ae)(x j:Nat):ap (gU m a x) j=ba m (ap a j) x:=by
 unfold gU;rw[jh];split
 ·rfl
 ·rw[dD (by omega),et]
def vE(m:Nat)(l:b3)(x i j:Nat):Int:=((if j<i then ba m (lo m (l.getD j 0)) x else 0:Nat):Int)
theorem apT(m:Nat)(l:b3)(x i:Nat):(fun j=>if j=i then((ba m (lo m (l.getD i 0)) x:Nat):Int) else vE m l x i j)=vE m l x (i+1):=by
 funext j;unfold vE;by_cases h:j=i
 ·subst h;simp
 ·rw[az h];by_cases ab:j<i
  ·rw[aD ab,aD (by omega)]
  ·rw[az ab,az (by omega)]
theorem anP{m:Nat}(hm:Ok m)(l:b3)(x:Nat):trim (bz m (ft l.length (vE m l x l.length)))=gU m (bz m l) x:=by
 rw[H8];unfold gU;refine Ih (fun j=>?_);rw[sC,CL];split
 ·unfold vE;rw[aD (by assumption),hC (eL hm (lJ m _) x)]
 ·rfl
theorem asX(r g m:Nat)(A:aN)(n c:Nat)(l:b3)(x:Int)(w:ao)(hm:Ok m)(aH:Has (uQ r g m) w)(aj:Has (aP 1 A n (ints .i64 l)) w)(aQ:n≤4294967296):pV Tryz.prog 207 [.pointer (some ⟨r,0,none⟩),.slice A n c,.int .i64 x] w (gU m (bz m l) (lo m x)):=by
 obtain⟨wc,aI⟩:=DV aH;have eA:=qB aj;subst eA;refine b8 Tryz.func207 I Tryz.ntmps207 I<|J.aw 1 I<|ak I I<|U.bl 4 I<|ac I I<|cf I I<|lP l.length I I I I I (by omega) aJ<|fun gs=>ak I I<|U.next<|J.seq<|J.aw 3 I<|ac I I<|cf I I<|ac I I<|U.next<|J.block<|J.loop (G:=Nat) (fun i=>[(0,.pointer (some ⟨r,0,none⟩)),(2,.int .i64 x),(7,.slice (some ⟨gs,0,none⟩) l.length l.length),(13,.slice A l.length c),(14,.int .i64 (l.length:Nat)),(15,.int .i64 (i:Nat))]) (fun i=>bF w [aE gs 3 (ints .i64 (ft l.length (vE m l (lo m x) i))).toArray]) (fun i=>i≤l.length) (fun i=>l.length- i) 0 ⟨I,I,I,I,I,I,trivial⟩ (fun _ h=>by rw[show ft l.length (vE m l (lo m x) 0)=ft l.length (fun _=>0) from FZ (fun j _=>by simp[vE]),←Z5];exact h) (dg _) ?_;intro i hi;refine J.aw 1 I<|cQ I I I I<|U.next<|J.seq ?_;refine J.test I (fun ag=>?_) (fun ag=>?_)
 ·exact J.skip<|al.code<|J.seq<|J.block<|J.aw 5 I<|ac I I<|fH i (fun w hw=>hw.a7 aj) I I I I (by omega)<|jN (fun w hw=>hw.a7 aj) I I (by rw[dJ];exact qv (by omega)) (by omega)<|ak I I<|ak I I<|U.next<|J.rg 11 I<|ac I I<|ac I I<|ac I I<|bI I I<|bd I I<|c5 I I (fun _ h=>h.cell wc)<|ac I I<|ac I I<|bJ I I I I (fun w hw=>Cx g m _ _ w hm (hw.a7 aI)) aJ<|eP i I I I I (by omega)<|eh 0 I I I I I (by rw[FB];omega) aJ<|U.end_<|al.aE<|al.code<|J.rg 2 rfl<|b1 rfl rfl rfl (r:=((i+1:Nat):Int)) (bm (by omega))<|ac rfl rfl<|U.end_<|al.back (i+1) ⟨rfl,rfl,rfl,rfl,rfl,rfl,trivial⟩ (fun _ h=>by rw[←apT,←Qo];exact h) (by omega) (by omega)
 ·obtain rfl:i=l.length:=by omega
  exact J.exit I<|al.code<|J.aw 4 I<|ac I I<|ac I I<|dh I I I I (fun w hw=>by have:=zt r g m (some ⟨gs,0,none⟩) l.length l.length (ft l.length (vE m l (lo m x) l.length)) w hm (hw.a7 aH) (Has.gK ((hw.has (i:=0) I).kI (m:=l.length) (by exact FB.trans (dJ _).symm)) I) (by omega);rw[anP hm] at this;exact this) aJ<|fun q aM=>ak I I<|U.next<|J.ret<|al.ret Tryz.results207 I (fun w hw=>⟨q,I,aM,hw.pick [0] I⟩)
def cM(m:Nat):ae→Nat→Nat
 |[],_=>0
 |a::r,x=>ba m (cM m r x) x^^^a
theorem jC{m:Nat}(h:Ok m)(x:Nat):∀{l:ae},(∀a∈l,a<2^m)→cM m l x<2^m
 |[],_=>eI m
 |a::_,bc=>mY (eL h (jC h x (fun b ad=>bc b (eQ a ad))) x) (bc a fX)
theorem arF{m:Nat}{l:b3}{j:Nat}(aB:0<j)(ax:j≤l.length):(bz m l).drop (j- 1)=lo m (l.getD (j- 1) 0)::(bz m l).drop j:=by
 rw[Iq (by rw[sC];omega),show j- 1+1=j by omega];congr 1;simp[bz,show j- 1<l.length by omega]
def cS(m:Nat)(f g:Nat→Nat)(j:Nat):Nat:=xs (fun i=>ba m (f i) (g (j- i))) (j+1)
def cN(m:Nat)(a b:ae):ae:=pl (a.length+b.length- 1) (fun j=>cS m (ap a) (ap b) j)
def rv(m:Nat)(a b:ae)(j i:Nat):Nat:=if i≤j then ba m (ap a i) (ap b (j- i)) else 0
def mu(m:Nat)(a b:ae)(i k j:Nat):Int:=((xs (rv m a b j) i^^^(if i≤j∧j<i+k then ba m (ap a i) (ap b (j- i)) else 0):Nat):Int)
theorem alV(m:Nat)(a b:ae)(j:Nat):mu m a b 0 0 j=0:=by
 unfold mu;rw[az (by omega)];simp[xs]
theorem gA{a:ae}{b:Nat}(h:∀x∈a,x<b)(ad:0<b)(j:Nat):ap a j<b:=by
 by_cases ax:j<a.length
 ·exact h _ (iF (p7 ax))
 ·rw[dD (by omega)];exact ad
theorem aav{m:Nat}(hm:Ok m){a b:ae}(aj:∀x∈a,x<2^m)(j i:Nat):rv m a b j i<2^m:=by
 unfold rv;split
 ·exact eL hm (gA aj (eI m) i) _
 ·exact eI m
theorem amd(m:Nat)(a b:ae)(i k:Nat)(ah:b.length≤k)(j:Nat):mu m a b i k j=mu m a b (i+1) 0 j:=by
 unfold mu;rw[az (show ¬(i+1≤j∧j<i+1+0) by omega),eS];show _=((xs (rv m a b j) i^^^rv m a b j i:Nat):Int);unfold rv;by_cases aa:i≤j
 ·by_cases ab:j<i+k
  ·rw[aD ⟨aa,ab⟩,aD aa]
  ·rw[az (by omega),aD aa,dD (show b.length≤j- i by omega),jn]
 ·rw[az (by omega),az aa]
theorem WN{m:Nat}(hm:Ok m){a b:ae}(aj:∀x∈a,x<2^m)(i k:Nat):(fun j=>if j=i+k then gX .xor .i64 (mu m a b i k (i+k)) (ba m (ap a i) (ap b k):Nat) else mu m a b i k j)=mu m a b i (k+1):=by
 funext j;by_cases h:j=i+k
 ·subst h;rw[aD rfl];have aa:mu m a b i k (i+k)=(xs (rv m a b (i+k)) i:Nat):=by
   unfold mu;rw[az (by omega),eS]
  rw[aa,xd (zC hm (xO (fun IV _=>aav hm aj (i+k) IV))) (zC hm (eL hm (gA aj (eI m) i) _))];unfold mu;rw[aD (by omega),show i+k- i=k by omega]
 ·rw[az h];unfold mu;by_cases ab:i≤j∧j<i+k
  ·rw[aD ab,aD (by omega)]
  ·rw[az ab,az (by omega)]
theorem as4{m:Nat}(hm:Ok m){a b:ae}(aj:∀x∈a,x<2^m):trim (bz m (ft (a.length+b.length- 1) (mu m a b a.length 0)))=cN m a b:=by
 rw[H8];unfold cN;refine Ih (fun j=>?_);split
 ·unfold mu;rw[az (by omega),eS,hC (xO (fun i _=>aav hm aj j i))];unfold cS;have bu:xs (rv m a b j) a.length=xs (rv m a b j) (j+1):=by
   refine ack (fun i hi=>?_) (fun i hi=>?_)
   ·unfold rv;rw[dD hi,et];simp
   ·unfold rv;rw[az (by omega)]
  rw[bu];exact hz (fun i hi=>by unfold rv;rw[aD (by omega)])
 ·rfl
theorem vO{m:Nat}{a b:ae}(h:a.length=0∨b.length=0):cN m a b=[]:=by
 have aL:∀j,cS m (ap a) (ap b) j=0:=fun j=>pO (fun i _=>by
  rcases h with h|h
  ·rw[dD (l:=a) (by omega),et]
  ·rw[dD (l:=b) (by omega),jn])
 have:cN m a b=trim []:=HJ (fun j=>by
  rw[Cw,aL,lp];split<;>rfl)
 exact this
theorem vW{a:ae}{i:Nat}(h:i<a.length):(aA .i64 a)[i]?=some (.int .i64 (ap a i:Nat)):=by
 rw[Ez h];rfl
theorem WX{g m:Nat}{w:ao}{x y:Nat}(hm:Ok m)(aI:Has (fL g m) w)(af:x<2^m)(aF:y<2^m):cC Tryz.prog 198 [.pointer (some ⟨g,0,none⟩),.int .i64 (x:Nat),.int .i64 (y:Nat)] w (.int .i64 (ba m x y:Nat)):=by
 have:=Cx g m x y w hm aI;rw[hC af,hC aF] at this;exact this
theorem J5(m:Nat)(l:b3):∀x∈trim (bz m l),x<2^m:=Dj (EY m l)
abbrev VG(P:a8)(f:dn)(args:cw)(w:ao)(E:ae):Prop:=
 fh P f args w (X:=aN×Nat) (fun q=>two (.slice q.1 E.length q.2) .nilIface) (fun q=>E.length≤q.2) (fun q=>[own 3 1 q.1 E.length q.2 (aA .i64 E)])
theorem aeH(r g m:Nat)(A:aN)(n c:Nat)(l:b3)(B:aN)(k d:Nat)(l2:b3)(w:ao)(hm:Ok m)(aH:Has (uQ r g m) w)(aj:Has (aP 1 A n (ints .i64 l)) w)(ad:Has (aP 1 B k (ints .i64 l2)) w)(aQ:n≤4294967296)(ah:k≤4294967296)(tT:(trim (bz m l)).length+(trim (bz m l2)).length≤2048):VG Tryz.prog 138 [.pointer (some ⟨r,0,none⟩),.slice A n c,.slice B k d] w (cN m (trim (bz m l)) (trim (bz m l2))):=by
 obtain⟨wc,aI⟩:=DV aH;have eA:=qB aj;subst eA;have yk:=qB ad;subst yk;have bs:=J5 m l;have bV:=J5 m l2;have avx:=kY (bz m l);have IL:=kY (bz m l2);have tX:=lQ (bz m l);have awD:=lQ (bz m l2);have av4:=sC m l;have awT:=sC m l2;generalize iX:trim (bz m l)=a at*;generalize q6:trim (bz m l2)=b at*;refine b8 Tryz.func138 I Tryz.ntmps138 I<|J.aw 2 I<|ak I I<|ak I I<|U.bl 8 I<|ac I I<|ac I I<|dh I I I I (fun w hw=>by have:=zt r g m A l.length c l w hm (hw.a7 aH) (hw.a7 aj) (by omega);rw[iX] at this;exact this) aJ<|fun fG xK=>ac I I<|ac I I<|dh I I I I (fun w hw=>by have:=zt r g m B l2.length d l2 w hm (hw.a7 aH) (hw.a7 ad) (by omega);rw[q6] at this;exact this) aJ<|fun da hD=>ak I I<|ak I I<|U.next<|J.seq<|J.block<|J.aw 7 I<|ac I I<|cf I I<|ac I I<|cf I I<|b1 I I I (bm (by omega))<|fD I I I (df (by omega))<|ak I I<|U.next<|J.dy I<|J.aw 9 I<|ac I I<|cf I I<|gy I I I I<|ac I I ?_;refine U.bool 31 I (fun ad=>?_) (fun ad=>?_)
 ·replace ad:=gF ad;exact U.skip I<|U.skip I<|U.skip I<|fe I I I<|ak I I<|U.next<|J.hH I<|J.aw 2 I<|ak I I<|ak I I<|U.next<|J.ret<|al.ret Tryz.results138 I (fun w hw=>⟨(none,0),by rw[vO (.inl (by omega))];rfl,by rw[vO (.inl (by omega))];exact cq _,by rw[vO (.inl (by omega))];exact(hw.pick [] I).iB _ 1⟩)
 ·replace ad:=jG ad;refine ac I I<|cf I I<|gy I I I I<|ef I I I<|ak I I<|U.next ?_;refine J.test I (fun ag=>?_) (fun ag=>?_)
  ·exact J.aw 2 I<|ak I I<|ak I I<|U.next<|J.ret<|al.ret Tryz.results138 I (fun w hw=>⟨(none,0),by rw[vO (.inr (by omega))];rfl,by rw[vO (.inr (by omega))];exact cq _,by rw[vO (.inr (by omega))];exact(hw.pick [] I).iB _ 1⟩)
  ·refine J.skip<|al.aE<|al.code<|J.aw 8 I<|ac I I<|cf I I<|ac I I<|cf I I<|b1 I I I (bm (by omega))<|eB I I I (r:=((a.length+b.length- 1:Nat):Int)) (by rw[show((a.length:Nat):Int)+(b.length:Nat)- 1=((a.length+b.length- 1:Nat):Int) by omega];exact bm (by omega))<|lP (a.length+b.length- 1) I I I I I (by omega) aJ<|fun go=>ak I I<|U.next<|J.seq<|J.aw 3 I<|ac I I<|cf I I<|ac I I<|U.next<|J.block<|J.loop (G:=Nat) (fun i=>[(0,.pointer (some ⟨r,0,none⟩)),(2,.slice da.1 b.length da.2),(8,.slice (some ⟨go,0,none⟩) (a.length+b.length- 1) (a.length+b.length- 1)),(43,.slice fG.1 a.length fG.2),(44,.int .i64 (a.length:Nat)),(45,.int .i64 (i:Nat))]) (fun i=>bF w [aE go 3 (ints .i64 (ft (a.length+b.length- 1) (mu m a b i 0))).toArray,own 3 1 da.1 b.length da.2 (aA .i64 b),own 3 1 fG.1 a.length fG.2 (aA .i64 a)]) (fun i=>i≤a.length) (fun i=>a.length- i) 0 ⟨I,I,I,I,I,I,trivial⟩ (fun _ h=>by rw[show ft (a.length+b.length- 1) (mu m a b 0 0)=ft (a.length+b.length- 1) (fun _=>0) from FZ (fun j _=>alV m a b j),←Z5];exact h) (dg _) ?_;intro i hi;refine J.aw 1 I<|cQ I I I I<|U.next<|J.seq ?_;refine J.test I (fun ag=>?_) (fun ag=>?_)
   ·refine J.skip<|al.code<|J.seq<|J.block<|J.aw 5 I<|ac I I<|gT 2 i I I I I I (by omega)<|km 2 I I I (vW (by omega))<|ak I I<|ak I I<|U.bl 3 I<|ac I I<|cf I I<|ac I I<|U.next<|J.block<|J.loop (G:=Nat) (fun k=>[(0,.pointer (some ⟨r,0,none⟩)),(2,.slice da.1 b.length da.2),(8,.slice (some ⟨go,0,none⟩) (a.length+b.length- 1) (a.length+b.length- 1)),(9,.int .i64 (i:Nat)),(10,.int .i64 (ap a i:Nat)),(43,.slice fG.1 a.length fG.2),(44,.int .i64 (a.length:Nat)),(45,.int .i64 (i:Nat)),(50,.slice da.1 b.length da.2),(51,.int .i64 (b.length:Nat)),(52,.int .i64 (k:Nat))]) (fun k=>bF w [aE go 3 (ints .i64 (ft (a.length+b.length- 1) (mu m a b i k))).toArray,own 3 1 da.1 b.length da.2 (aA .i64 b),own 3 1 fG.1 a.length fG.2 (aA .i64 a)]) (fun k=>k≤b.length) (fun k=>b.length- k) 0 ⟨I,I,I,I,I,I,I,I,I,I,I,trivial⟩ (fun _ h=>h) (dg _) ?_;intro k jx;refine J.aw 1 I<|cQ I I I I<|U.next<|J.seq ?_;refine J.test I (fun ag=>?_) (fun ag=>?_)
    ·refine J.skip<|al.code<|J.seq<|J.block<|J.aw 5 I<|ac I I<|gT 1 k I I I I I (by omega)<|km 1 I I I (vW (by omega))<|ak I I<|ak I I<|U.next<|J.dQ (bW [0,1,2,3,4,6,7,8,9,10,11] (.hp 5 (cj [12] (bW [13,14] (cj [15] .done))) (cj [12,5] (bW [13,14] (cj [15] .done))))) (bF w []) mixed (by kernel_rfl) (fun _ h=>h.drew) (fun _ h=>h.pick [] I)<|ac I I<|ac I I<|ac I I<|b1 I I I (r:=((i+k:Nat):Int)) (bm (by omega))<|eP (i+k) I I I I (by omega)<|ac I I<|bI I I<|bd I I<|dc I I (fun _ h=>h.cell wc)<|ac I I<|ac I I ?_;refine U.hp ?_ ?_
     ·exact cm 0 I I I (aal (by omega))<|bJ I I I I (fun w hw=>WX hm (hw.a7 aI) (gA bs (eI m) i) (gA bV (eI m) k)) (fun _ h=>h.pick [] I)<|dY I I I I I<|eP (i+k) I I I I (by omega)<|eh 0 I I I I I (by rw[FB];omega) (fun _ h=>h.pick [] rfl)<|U.end_<|al.aE<|al.code<|J.rg 2 rfl<|b1 rfl rfl rfl (r:=((k+1:Nat):Int)) (bm (by omega))<|ac rfl rfl<|U.end_<|al.back (k+1) ⟨rfl,rfl,rfl,rfl,rfl,rfl,rfl,rfl,rfl,rfl,rfl,trivial⟩ (fun _ h=>by rw[←WN hm bs,←Qo];exact h) (by omega) (by omega)
     ·exact bJ I I I I (fun w hw=>WX hm (hw.a7 aI) (gA bs (eI m) i) (gA bV (eI m) k)) (fun _ h=>h.pick [] I)<|cm 0 I I I (aal (by omega))<|dY I I I I I<|eP (i+k) I I I I (by omega)<|eh 0 I I I I I (by rw[FB];omega) (fun _ h=>h.pick [] rfl)<|U.end_<|al.aE<|al.code<|J.rg 2 rfl<|b1 rfl rfl rfl (r:=((k+1:Nat):Int)) (bm (by omega))<|ac rfl rfl<|U.end_<|al.back (k+1) ⟨rfl,rfl,rfl,rfl,rfl,rfl,rfl,rfl,rfl,rfl,rfl,trivial⟩ (fun _ h=>by rw[←WN hm bs,←Qo];exact h) (by omega) (by omega)
    ·obtain rfl:k=b.length:=by omega
     exact J.exit I<|al.aE<|al.code<|J.rg 2 I<|b1 I I I (r:=((i+1:Nat):Int)) (bm (by omega))<|ac I I<|U.end_<|al.back (i+1) ⟨I,I,I,I,I,I,trivial⟩ (fun _ h=>by rw[←FZ (fun j _=>amd m a b i b.length (cq _) j)];exact h) (by omega) (by omega)
   ·obtain rfl:i=a.length:=by omega
    exact J.exit I<|al.code<|J.aw 5 I<|ac I I<|ac I I<|dh I I I I (fun w hw=>by have:=zt r g m (some ⟨go,0,none⟩) (a.length+b.length- 1) (a.length+b.length- 1) (ft (a.length+b.length- 1) (mu m a b a.length 0)) w hm (hw.a7 aH) (Has.gK ((hw.has (i:=0) I).kI (m:=(a.length+b.length- 1)) (by exact FB.trans (dJ _).symm)) I) (by omega);rw[as4 hm bs] at this;exact this) aJ<|fun lK rl=>ak I I<|ak I I<|U.next<|J.ret<|al.ret Tryz.results138 I (fun w hw=>⟨lK,I,rl,hw.pick [0] I⟩)
noncomputable def to(m:Nat)(b:ae)(R:Nat→Nat)(n:Nat):Nat:=ba m (R (n+b.length- 1)) (inv m (ap b (b.length- 1)))
def te(m:Nat)(b:ae)(R:Nat→Nat)(n c i j:Nat):Nat:=if n≤j∧j<n+i then R j^^^ba m c (ap b (j- n)) else R j
noncomputable def re(m:Nat)(b:ae):Nat→(Nat→Nat)→Nat→Nat
 |0,R=>R
 |n+1,R=>re m b n (te m b R n (to m b R n) b.length)
noncomputable def mn(m:Nat)(b:ae):Nat→(Nat→Nat)→Nat→Nat
 |0,_,_=>0
 |n+1,R,j=>if j=n then to m b R n else mn m b n (te m b R n (to m b R n) b.length) j
theorem L9(m:Nat)(b:ae):∀(n:Nat) (R:Nat→Nat) (j:Nat),n≤j→mn m b n R j=0
 |0,_,_,_=>rfl
 |n+1,R,j,h=>by
  unfold mn;rw[az (by omega)];exact L9 m b n _ j (by omega)
noncomputable def mP(m:Nat)(a b:ae):ae:=pl (a.length+1- b.length) (mn m b (a.length+1- b.length) (ap a))
noncomputable def mV(m:Nat)(a b:ae):ae:=pl a.length (re m b (a.length+1- b.length) (ap a))
theorem DX{m:Nat}(hm:Ok m){b:ae}{R:Nat→Nat}(cy:∀j,R j<2^m){n c i:Nat}(ag:c<2^m)(j:Nat):te m b R n c i j<2^m:=by
 unfold te;split
 ·exact mY (cy j) (eL hm ag _)
 ·exact cy j
theorem Vl{m:Nat}(hm:Ok m){b:ae}:∀(n:Nat) {R:Nat→Nat},(∀j,R j<2^m)→∀j,re m b n R j<2^m
 |0,_,cy,j=>cy j
 |n+1,_,cy,j=>Vl hm n (fun j=>DX hm cy (eL hm (cy _) _) j) j
theorem Nj{m:Nat}(hm:Ok m){b:ae}:∀(n:Nat) {R:Nat→Nat},(∀j,R j<2^m)→∀j,mn m b n R j<2^m
 |0,_,_,_=>eI m
 |n+1,R,cy,j=>by
  unfold mn;split
  ·exact eL hm (cy _) _
  ·exact Nj hm n (fun j=>DX hm cy (eL hm (cy _) _) j) j
def Lu(n:Nat)(f:Nat→Nat):b3:=ft n (fun j=>(f j:Nat))
theorem aut{m n:Nat}{f:Nat→Nat}(h:∀j,f j<2^m):trim (bz m (Lu n f))=pl n f:=by
 unfold Lu;rw[H8];exact Ih (fun j=>by rw[hC (h j)])
structure LL(m:Nat)(a b:ae)(q:Nat×(Nat→Nat)×(Nat→Nat)):Prop where
 le:q.1≤a.length+1- b.length
 lt:∀j,q.2.1 j<2^m
 rest:re m b q.1 q.2.1=re m b (a.length+1- b.length) (ap a)
 asb:∀j,(if q.1≤j then q.2.2 j else mn m b q.1 q.2.1 j)=mn m b (a.length+1- b.length) (ap a) j
theorem LL.next{m k:Nat}(hm:Ok m){a b:ae}{R Q:Nat→Nat}(h:LL m a b (k+1,R,Q)):LL m a b (k,te m b R k (to m b R k) b.length,fun j=>if j=k then to m b R k else Q j):=by
 refine⟨by have:=h.le;simp only at this⊢;omega,fun j=>DX hm h.lt (eL hm (h.lt _) _) j,h.rest,fun j=>?_⟩;rw[←h.asb j];simp only;by_cases aa:j=k
 ·subst aa;rw[aD (cq _),aD rfl,az (by omega)];unfold mn;rw[aD rfl]
 ·by_cases ab:k+1≤j
  ·rw[aD (by omega),az aa,aD ab]
  ·rw[az (by omega),az ab];show _=mn m b (k+1) R j;conv=>rhs;unfold mn
   rw[az aa]
def aaa(m:Nat)(a:ae):Nat→ae
 |0=>[]
 |n+1=>if cM m a n=0 then aaa m a n++[n] else aaa m a n
theorem Au(k:cg)(a:ae)(x:Nat):aA k a++[.int k (x:Nat)]=aA k (a++[x]):=by simp[aA]
theorem xm{m:Nat}{a:ae}(h:∀x∈a,x<2^m):bz m (a.map Int.ofNat)=a:=by
 unfold bz;rw[o9];conv=>rhs;rw[←Il a]
 exact m1 (fun x af=>hC (h x af))
theorem _root_.Go.a6.au.st{F:Nat→Prop}{w₀ w:ao}{L:List bi}{q g E sz c:Nat}{cs:cJ}(hi:L[q]?=some (aE g E cs))(ag:cs.size=c*sz)(hm:c≤maxLen)(h:au F w₀ L w):au F w₀ (L.set q (own E sz (some ⟨g,0,none⟩) c c cs.toList)) w:=
 h.swap hi (fun _ D ⟨aa,ab⟩ _=>⟨D,⟨⟨by simpa using ag,.inr ⟨g,c,cs,rfl,dg _,ab,cq _,hm,ag,by rw[pK (by simp[ag])]⟩⟩,fun k=>by rw[aa];simp[ob]⟩,fun _ h=>h⟩)
def JK(m:Nat)(p:ae)(a i j:Nat):Nat:=if j<i then ap (0::p) j^^^ba m (ap p j) a else ap (0::p) j
def wy(m:Nat)(p:ae)(a:Nat):ae:=(List.range (p.length+1)).map (JK m p a p.length)
def iC(m:Nat)(l:b3):Nat→ae
 |0=>[1]
 |i+1=>wy m (iC m l i) (lo m (l.getD i 0))
theorem E8(m:Nat)(l:b3):∀i,(iC m l i).length=i+1
 |0=>rfl
 |i+1=>by simp[iC,wy,E8 m l i]
theorem aqq{m:Nat}(hm:Ok m){p:ae}(aG:∀x∈p,x<2^m)(a i j:Nat):JK m p a i j<2^m:=by
 have aB:∀x∈(0::p),x<2^m:=fun x af=>by
  rcases ei.1 af with rfl|af
  ·exact eI m
  ·exact aG x af
 unfold JK;split
 ·exact mY (gA aB (eI m) j) (eL hm (gA aG (eI m) j) a)
 ·exact gA aB (eI m) j
theorem Lt{m:Nat}(hm:Ok m)(l:b3):∀i,∀x∈iC m l i,x<2^m
 |0,x,af=>by
  simp[iC] at af;subst af;exact kC hm
 |i+1,x,af=>by
  obtain⟨j,_,rfl⟩:=gE.1 af;exact aqq hm (Lt hm l i) _ _ j
theorem acN{l:ae}{K:Nat}(h:∀j,K≤j→ap l j=0):fA l≤K:=by
 by_cases aB:fA l=0
 ·omega
 ·exact nV (fun ca=>DC l aB (h _ (by omega)))
theorem Og{m:Nat}(hm:Ok m){x y:Nat}(af:x<2^m)(aF:y<2^m)(aB:y≠0):ba m (ba m x (inv m y)) y=x:=by
 rw[h0 hm af (ph hm y) aF,kH hm (ph hm y) aF,EE hm aF aB,ur hm af]
theorem Vy{m:Nat}(hm:Ok m){b:ae}(ad:∀x∈b,x<2^m)(aB:b.length≠0)(bb:ap b (b.length- 1)≠0):∀(n:Nat) {R:Nat→Nat},(∀j,R j<2^m)→(∀j,n+b.length- 1≤j→R j=0)→∀j,b.length- 1≤j→re m b n R j=0
 |0,_,_,aL,j,ax=>aL j (by omega)
 |n+1,R,cy,aL,j,ax=>by
  refine Vy hm ad aB bb n (fun j=>DX hm cy (eL hm (cy _) _) j) (fun i hi=>?_) j ax;unfold te;by_cases h:i=n+b.length- 1
  ·rw[aD (by omega)];rw[←h,show i- n=b.length- 1 by omega,Og hm (cy i) (gA ad (eI m) _) bb,jy]
  ·rw[az (by omega)];exact aL i (by omega)
theorem W5{m:Nat}(hm:Ok m){a b:ae}(aj:∀x∈a,x<2^m)(ad:∀x∈b,x<2^m)(aB:b.length≠0)(bb:ap b (b.length- 1)≠0)(j:Nat)(ax:b.length- 1≤j):re m b (a.length+1- b.length) (ap a) j=0:=
 Vy hm ad aB bb _ (gA aj (eI m)) (fun i hi=>dD (by omega)) j ax
theorem IG{m:Nat}(hm:Ok m){a b:ae}(aj:∀x∈a,x<2^m)(ad:∀x∈b,x<2^m)(aB:b.length≠0)(bb:ap b (b.length- 1)≠0):(mV m a b).length<b.length:=by
 have:fA ((List.range a.length).map (re m b (a.length+1- b.length) (ap a)))≤b.length- 1:=acN (fun j ax=>by
  rw[Cw];split
  ·exact W5 hm aj ad aB bb j ax
  ·rfl)
 unfold mV pl;rw[kY];omega
structure b2(m:Nat)(a:ae):Prop where
 lt:∀x∈a,x<2^m
 eq:trim a=a
theorem b2.jq{m:Nat}{a:ae}(h:b2 m a)(aB:a.length≠0):ap a (a.length- 1)≠0:=by
 have aa:fA a=a.length:=by rw[←kY,h.eq]
 rw[←aa];exact DC a (by omega)
theorem kz{m n:Nat}{f:Nat→Nat}(h:∀j,f j<2^m):b2 m (pl n f):=by
 refine⟨Dj (fun x af=>?_),afB n f⟩;obtain⟨j,_,rfl⟩:=gE.1 af;exact h j
theorem xt{m:Nat}(hm:Ok m){a b:ae}(aj:b2 m a):b2 m (mV m a b):=kz (Vl hm _ (gA aj.lt (Nat.two_pow_pos m)))
noncomputable def uo(m:Nat):Nat→ae→ae→ae
 |0,a,_=>a
 |k+1,a,b=>if b.length=0 then a else uo m k b (mV m a b)
noncomputable def rK(m:Nat)(a b:ae):ae:=uo m (b.length+1) a b
noncomputable def xi(m:Nat)(a:ae):ae:=if a.length=0 then[] else gU m a (inv m (ap a (a.length- 1)))
structure ax0(m:Nat)(a b:ae)(q:ae×ae×(aN×Nat)×(aN×Nat)):Prop where
 aa:b2 m q.1
 ab:b2 m q.2.1
 aC:q.1.length≤4294967296
 l2:q.2.1.length≤4294967296
 eq:rK m q.1 q.2.1=rK m a b
theorem b2.low{m:Nat}{a:ae}(h:b2 m a):trim (bz m (a.map Int.ofNat))=a:=by rw[xm h.lt,h.eq]
end Go.Proofs.YtcgjepodnfjggaaGreatDoor
end
section
namespace Go.Proofs.YtcgjepodnfjggaaGreatDoor
open Go.a6 Go.cv
section
variable{m:Nat}
theorem Af{f:Nat→Nat}{k:Nat}:∀{n:Nat},k<n→(∀i,i<n→i≠k→f i=0)→xs f n=f k
 |0,h,_=>by omega
 |n+1,h,aL=>by
  unfold xs;by_cases ah:k=n
  ·subst ah;rw[pO (fun i hi=>aL i (by omega) (by omega)),hQ]
  ·rw[Af (k:=k) (by omega) (fun i hi EW=>aL i (by omega) EW),aL n (by omega) (fun h=>ah h.symm),eS]
theorem OT(G:Nat→Nat)(k:Nat):∀n,xs (fun i=>if k≤i then G (i- k) else 0) (k+n)=xs G n
 |0=>pO (fun i hi=>az (by omega))
 |n+1=>by
  show xs _ (k+n)^^^(if k≤k+n then G (k+n- k) else 0)=xs G n^^^G n;rw[OT G k n,aD (by omega),show k+n- k=n by omega]
theorem Po(hm:Ok m){f g:Nat→Nat}(aI:∀j,f j<2^m)(bg:∀j,g j<2^m)(j:Nat):cS m f g j=cS m g f j:=by
 unfold cS;rw[Vx];refine hz (fun i hi=>?_);rw[kH hm (aI _) (bg _),show j+1- 1- i=j- i by omega,show j- (j- i)=i by omega]
theorem GP(hm:Ok m){f:Nat→Nat}(aI:∀j,f j<2^m)(g:Nat→Nat)(j:Nat):cS m f g j<2^m:=xO (fun _ _=>eL hm (aI _) _)
theorem yG(hm:Ok m){f g:Nat→Nat}(aI:∀j,f j<2^m)(bg:∀j,g j<2^m)(h:Nat→Nat)(j:Nat):cS m (fun i=>f i^^^g i) h j=cS m f h j^^^cS m g h j:=by
 unfold cS;rw[←AK];exact hz (fun i _=>zQ hm (aI i) (bg i) _)
theorem wZ(m k c:Nat)(g:Nat→Nat)(j:Nat):cS m (fun i=>if i=k then c else 0) g j=if k≤j then ba m c (g (j- k)) else 0:=by
 unfold cS;split
 ·rw[Af (k:=k) (by omega) (fun i _ hi=>by dsimp only;rw[az hi,et])];dsimp only;rw[aD rfl]
 ·exact pO (fun i hi=>by dsimp only;rw[az (by omega),et])
theorem VD(m:Nat)(g:Nat→Nat)(j:Nat):cS m (fun _=>0) g j=0:=pO (fun _ _=>et m _)
theorem oT{f hB g c9:Nat→Nat}{j:Nat}(aa:∀i,i≤j→f i=hB i)(ab:∀i,i≤j→g i=c9 i):cS m f g j=cS m hB c9 j:=
 hz (fun i hi=>by rw[aa i (by omega),ab (j- i) (by omega)])
theorem am8{F:Nat→Nat}{i j:Nat}(h:i≤j):xs F (i+1)=xs (fun k=>if k≤i then F k else 0) (j+1):=by
 rw[show j+1=i+1+(j- i) by omega,AN (f:=fun k=>if k≤i then F k else 0) (n:=i+1) (fun k ah=>az (by omega))];exact hz (fun k ah=>(aD (by omega)).symm)
theorem Q4(hm:Ok m){f g h:Nat→Nat}(aI:∀j,f j<2^m)(bg:∀j,g j<2^m)(c6:∀j,h j<2^m)(j:Nat):cS m (cS m f g) h j=cS m f (cS m g h) j:=by
 have bu:cS m (cS m f g) h j=xs (fun i=>xs (fun k=>if k≤i then ba m (ba m (f k) (g (i- k))) (h (j- i)) else 0) (j+1)) (j+1):=by
  refine hz (fun i hi=>?_);show ba m (xs _ (i+1)) _=_;rw[Ao hm _ _ (fun k _=>eL hm (aI _) _)];exact am8 (by omega)
 have bD:cS m f (cS m g h) j=xs (fun k=>xs (fun i=>if k≤i then ba m (ba m (f k) (g (i- k))) (h (j- i)) else 0) (j+1)) (j+1):=by
  refine hz (fun k ah=>?_);show ba m _ (xs _ (j- k+1))=_;rw[A1];have:=OT (fun l=>ba m (ba m (f k) (g l)) (h (j- k- l))) k (j- k+1);rw[show k+(j- k+1)=j+1 by omega] at this;rw[←show _=xs (fun l=>ba m (f k) (ba m (g l) (h (j- k- l)))) (j- k+1) from hz (fun l _=>h0 hm (aI k) (bg l) (c6 _)),←this];refine hz (fun i hi=>?_);by_cases h:k≤i
  ·rw[aD h,aD h,show j- k- (i- k)=j- i by omega]
  ·rw[az h,az h]
 rw[bu,bD,Hy]
end
section
variable{m:Nat}(hm:Ok m)
theorem b2.c{a:ae}(h:b2 m a)(j:Nat):ap a j<2^m:=gA h.lt (Nat.two_pow_pos m) j
theorem b2.ext{a b:ae}(aj:b2 m a)(ad:b2 m b)(h:∀j,ap a j=ap b j):a=b:=by rw[←aj.eq,←ad.eq];exact HJ h
theorem Ep(m:Nat):b2 m []:=⟨fun _ h=>(by cases h),rfl⟩
include hm
omit hm in
theorem lu(_hm:Ok m){a b:ae}(aj:b2 m a)(ad:b2 m b):b2 m (cO a b):=kz (fun j=>mY (aj.c j) (ad.c j))
theorem iS{a b:ae}(aj:b2 m a)(_hb:b2 m b):b2 m (cN m a b):=kz (GP hm aj.c _)
theorem yL{a:ae}(aj:b2 m a)(x:Nat):b2 m (gU m a x):=kz (fun j=>eL hm (aj.c j) x)
theorem zd{a b:ae}(aj:b2 m a):b2 m (mP m a b):=kz (Nj hm _ aj.c)
omit hm in
theorem jS(m:Nat)(a b:ae)(j:Nat):ap (cN m a b) j=cS m (ap a) (ap b) j:=by
 unfold cN;rw[jh];split
 ·rfl
 ·refine(pO (fun i hi=>?_)).symm;by_cases h:i<a.length
  ·rw[dD (l:=b) (by omega),jn]
  ·rw[dD (l:=a) (by omega),et]
omit hm in
theorem b2.Yl{a:ae}(h:b2 m a)(aL:∀j,ap a j=0):a=[]:=h.ext (Ep m) (fun j=>by rw[aL,lp])
theorem vX{a b:ae}(aj:b2 m a)(ad:b2 m b):cN m a b=cN m b a:=(iS hm aj ad).ext (iS hm ad aj) (fun j=>by rw[jS,jS,Po hm aj.c ad.c])
theorem x5{a b c:ae}(aj:b2 m a)(ad:b2 m b)(ag:b2 m c):cN m (cN m a b) c=cN m a (cN m b c):=
 (iS hm (iS hm aj ad) ag).ext (iS hm aj (iS hm ad ag)) (fun j=>by
  rw[jS,jS,oT (hB:=cS m (ap a) (ap b)) (c9:=ap c) (fun i _=>jS m a b i) (fun _ _=>rfl),Q4 hm aj.c ad.c ag.c];exact(oT (fun _ _=>I) (fun i _=>jS m b c i)).symm)
theorem Bz{a b c:ae}(aj:b2 m a)(ad:b2 m b)(ag:b2 m c):cN m (cO a b) c=cO (cN m a c) (cN m b c):=
 (iS hm (lu hm aj ad) ag).ext (lu hm (iS hm aj ag) (iS hm ad ag)) (fun j=>by
  rw[jS,ey,jS,jS,←yG hm aj.c ad.c];exact oT (fun i _=>ey a b i) (fun _ _=>I))
theorem UE{a b c:ae}(aj:b2 m a)(ad:b2 m b)(ag:b2 m c):cO (cO a b) c=cO a (cO b c):=
 (lu hm (lu hm aj ad) ag).ext (lu hm aj (lu hm ad ag)) (fun j=>by simp only[ey];exact h5 _ _ _)
theorem an1{a:ae}(aj:b2 m a):cO a a=[]:=(lu hm aj aj).Yl (fun j=>by rw[ey,Nat.xor_self])
theorem D7{a:ae}(aj:b2 m a):cO a []=a:=(lu hm aj (Ep m)).ext aj (fun j=>by rw[ey,lp,Nat.xor_zero])
theorem SP{a:ae}(aj:b2 m a):cO [] a=a:=by rw[YK];exact D7 hm aj
theorem PZ{a b:ae}(aj:b2 m a)(ad:b2 m b):cO a (cO a b)=b:=by rw[←UE hm aj aj ad,an1 hm aj,SP hm ad]
omit hm in
theorem sV(m:Nat)(b:ae):cN m [] b=[]:=vO (.inl rfl)
omit hm in
theorem PN(m:Nat)(a:ae):cN m a []=[]:=vO (.inr rfl)
omit hm in
theorem sT{a:ae}(aj:b2 m a){n:Nat}(h:∀j,n≤j→ap a j=0):a.length≤n:=by
 have:fA a≤n:=acN h;rw[←aj.eq,kY];exact this
theorem al5{a b:ae}(aj:b2 m a)(ad:b2 m b){n:Nat}(aa:a.length≤n)(ab:b.length≤n):(cO a b).length≤n:=
 sT (lu hm aj ad) (fun j ax=>by rw[ey,dD (by omega),dD (by omega),jy])
omit hm in
theorem agx(_hm:Ok m){a b:ae}(h9:a.length≠0)(iL:b.length≠0):ap (cN m a b) (a.length+b.length- 2)=ba m (ap a (a.length- 1)) (ap b (b.length- 1)):=by
 rw[jS];unfold cS;rw[Af (k:=a.length- 1) (by omega) (fun i hi e7=>?_)]
 ·rw[show a.length+b.length- 2- (a.length- 1)=b.length- 1 by omega]
 ·by_cases h:i<a.length
  ·rw[dD (l:=b) (by omega),jn]
  ·rw[dD (l:=a) (by omega),et]
theorem Aq{a b:ae}(aj:b2 m a)(ad:b2 m b)(h9:a.length≠0)(iL:b.length≠0):(cN m a b).length=a.length+b.length- 1:=by
 have aa:(cN m a b).length≤a.length+b.length- 1:=by
  unfold cN pl;rw[kY];have:=lQ ((List.range (a.length+b.length- 1)).map fun j=>cS m (ap a) (ap b) j);simpa using this
 have ab:¬(cN m a b).length≤a.length+b.length- 2:=fun h=>by
  have an:=agx hm h9 iL (a:=a) (b:=b);rw[dD h] at an;exact o6 hm (aj.c _) (ad.c _) (aj.jq h9) (ad.jq iL) an.symm
 omega
theorem Vs{b:ae}(ad:∀j,ap b j<2^m):∀(n:Nat) {R:Nat→Nat},(∀j,R j<2^m)→∀j,cS m (mn m b n R) (ap b) j^^^re m b n R j=R j
 |0,R,_,j=>by
  show cS m (fun _=>0) (ap b) j^^^R j=R j;rw[VD,hQ]
 |n+1,R,cy,j=>by
  have ag:to m b R n<2^m:=eL hm (cy _) _;have abR:=DX hm (b:=b) cy (n:=n) ag (i:=b.length);have ih:=Vs ad n abR j;have e:cS m (mn m b (n+1) R) (ap b) j=cS m (fun i=>(if i=n then to m b R n else 0)^^^mn m b n (te m b R n (to m b R n) b.length) i) (ap b) j:=by
   refine oT (fun i _=>?_) (fun _ _=>I);conv=>lhs;unfold mn
   by_cases h:i=n
   ·rw[aD h,aD h,L9 _ _ _ _ _ (by omega),eS]
   ·rw[az h,az h,hQ]
  rw[e,yG hm (fun i=>by split;exact ag;exact eI m) (Nj hm n abR),wZ];show _^^^_^^^re m b n _ j=_;rw[h5,ih];unfold te;by_cases aa:n≤j
  ·rw[aD aa];by_cases ab:j<n+b.length
   ·rw[aD ⟨aa,ab⟩,BU,jy,eS]
   ·rw[az (by omega),dD (by omega),jn,hQ]
  ·rw[az aa,az (by omega),hQ]
omit hm in
theorem abD(_hm:Ok m)(a b:ae)(j:Nat):ap (mP m a b) j=mn m b (a.length+1- b.length) (ap a) j:=by
 unfold mP;rw[jh];split
 ·rfl
 ·exact(L9 _ _ _ _ _ (by omega)).symm
theorem acp{a b:ae}(aj:b2 m a)(ad:b2 m b)(iL:b.length≠0)(j:Nat):ap (mV m a b) j=re m b (a.length+1- b.length) (ap a) j:=by
 unfold mV;rw[jh];split
 ·rfl
 ·by_cases h:b.length- 1≤j
  ·exact(W5 hm aj.lt ad.lt iL (ad.jq iL) j h).symm
  ·have aB:a.length+1- b.length=0:=by omega
   rw[aB];exact(dD (by omega)).symm
theorem div_eq{a b:ae}(aj:b2 m a)(ad:b2 m b)(iL:b.length≠0):cO (cN m (mP m a b) b) (mV m a b)=a:=
 (lu hm (iS hm (zd hm aj) ad) (xt hm aj)).ext aj (fun j=>by
  rw[ey,jS,acp hm aj ad iL,oT (fun i _=>abD hm a b i) (fun _ _=>rfl)];exact Vs hm ad.c _ aj.c j)
theorem Pd{a b q r:ae}(aj:b2 m a)(ad:b2 m b)(iL:b.length≠0)(aM:b2 m q)(aH:b2 m r)(bc:r.length<b.length)(h:cO (cN m q b) r=a):q=mP m a b∧r=mV m a b:=by
 have hr:=zd hm aj (b:=b);have cy:=xt hm aj (b:=b);have axn:=IG hm aj.lt ad.lt iL (ad.jq iL) (a:=a);have ab:=div_eq hm aj ad iL;generalize mP m a b=Q at*;generalize mV m a b=R at*;have Kv:=iS hm aM ad;have C7:=iS hm hr ad;have key:cN m (cO q Q) b=cO r R:=by
  rw[Bz hm aM hr ad];refine(lu hm Kv C7).ext (lu hm aH cy) (fun j=>?_);have an:ap (cO (cN m q b) r) j=ap (cO (cN m Q b) R) j:=by rw[h,ab]
  simp only[ey] at an⊢;have aK:=ql (fun z=>z^^^(ap (cN m Q b) j^^^ap r j)) an;rw[show ap (cN m q b) j^^^ap r j^^^(ap (cN m Q b) j^^^ap r j)=ap (cN m q b) j^^^ap (cN m Q b) j by
    rw[oR (ap (cN m Q b) j),h5,JL],
   show ap (cN m Q b) j^^^ap R j^^^(ap (cN m Q b) j^^^ap r j)=ap r j^^^ap R j by
    rw[oR (ap (cN m Q b) j) (ap R j),h5,JL,oR]] at aK
  exact aK
 have aL:cO q Q=[]:=by
  refine m8 fun e7=>?_;have apV:(cO q Q).length≠0:=fun aB=>e7 (kS aB);have bo:=Aq hm (lu hm aM hr) ad apV iL;rw[key] at bo;have:=al5 hm aH cy (n:=b.length- 1) (by omega) (by omega);omega
 have bu:q=Q:=by
  have:=PZ hm aM hr;rw[aL,D7 hm aM] at this;exact this
 refine⟨bu,?_⟩;rw[aL,sV] at key;have:=PZ hm aH cy;rw[←key,D7 hm aH] at this;exact this
end
section
variable{m:Nat}
theorem PH:∀{a:ae} (_:∀j,ap a j=0) (x:Nat),cM m a x=0
 |[],_,_=>rfl
 |y::r,h,x=>by
  show ba m (cM m r x) x^^^y=0;rw[PH (a:=r) (fun j=>by rw[←jF y r j];exact h _) x,et,hQ,←pC y r];exact h 0
theorem s8:∀{a b:ae} (_:∀j,ap a j=ap b j) (x:Nat),cM m a x=cM m b x
 |[],b,h,x=>(PH (fun j=>by rw[←h,lp]) x).symm
 |y::r,[],h,x=>PH (fun j=>by rw[h,lp]) x
 |y::r,z::s,h,x=>by
  have aB:=h 0;rw[pC,pC] at aB;show ba m (cM m r x) x^^^y=ba m (cM m s x) x^^^z;rw[s8 (a:=r) (b:=s) (fun j=>by have:=h (j+1);rwa [jF,jF] at this) x,aB]
theorem ap2(a:ae)(x:Nat):cM m (trim a) x=cM m a x:=s8 (xn a) x
variable(hm:Ok m)
include hm
theorem E0:∀{a b:ae} (_:∀x∈a,x<2^m) (_:∀x∈b,x<2^m) (x:Nat),cM m (cO a b) x=cM m a x^^^cM m b x
 |[],b,_,_,x=>by
  rw[s8 (b:=b) (fun j=>by rw[ey,lp,hQ]) x];show _=0^^^_;rw[hQ]
 |y::r,[],_,_,x=>by
  rw[s8 (b:=y::r) (fun j=>by rw[ey,lp,eS]) x];show _=_^^^0;rw[eS]
 |y::r,z::s,aj,ad,x=>by
  have aH:∀x∈r,x<2^m:=fun x af=>aj x (eQ _ af);have aq:∀x∈s,x<2^m:=fun x af=>ad x (eQ _ af);rw[s8 (b:=(y^^^z)::cO r s) (fun j=>by
   rw[ey];cases j with
   |zero=>rw[pC,pC,pC]
   |succ j=>rw[jF,jF,jF,ey]) x]
  show ba m (cM m (cO r s) x) x^^^(y^^^z)=(ba m (cM m r x) x^^^y)^^^(ba m (cM m s x) x^^^z);rw[E0 aH aq x,zQ hm (jC hm x aH) (jC hm x aq),h5,h5,BU (ba m (cM m s x) x)]
theorem GK(c:Nat)(ag:c<2^m):∀{a:ae} (_:∀x∈a,x<2^m) (x:Nat) (_:x<2^m),cM m (gU m a c) x=ba m (cM m a x) c
 |[],_,x,_=>by
  rw[s8 (b:=[]) (fun j=>by rw[oN,lp,et]) x];exact(et m c).symm
 |y::r,aj,x,af=>by
  have aH:∀x∈r,x<2^m:=fun x af=>aj x (eQ _ af);have aF:=aj y fX;rw[s8 (b:=ba m y c::gU m r c) (fun j=>by
   rw[oN];cases j with
   |zero=>rw[pC,pC]
   |succ j=>rw[jF,jF,oN]) x]
  show ba m (cM m (gU m r c) x) x^^^ba m y c=ba m (ba m (cM m r x) x^^^y) c;rw[GK c ag aH x af,zQ hm (eL hm (jC hm x aH) _) aF,h0 hm (jC hm x aH) ag af,kH hm ag af,h0 hm (jC hm x aH) af ag]
theorem Cq:∀{a b:ae} (_:∀x∈a,x<2^m) (_:∀x∈b,x<2^m) (x:Nat) (_:x<2^m),cM m (cN m a b) x=ba m (cM m a x) (cM m b x)
 |[],b,_,_,x,_=>by
  rw[sV];exact(et m _).symm
 |y::r,b,aj,ad,x,af=>by
  have aH:∀x∈r,x<2^m:=fun x af=>aj x (eQ _ af);have aF:=aj y fX;have aG:∀z∈cN m r b,z<2^m:=(kz (GP hm (gA aH (eI m)) _)).lt;have iu:∀z∈0::cN m r b,z<2^m:=fun z aL=>by
   rcases ei.1 aL with rfl|aL
   ·exact eI m
   ·exact aG z aL
  have El:∀z∈gU m b y,z<2^m:=(kz (fun j=>eL hm (gA ad (eI m) j) y)).lt;rw[s8 (b:=cO (gU m b y) (0::cN m r b)) (fun j=>by
   rw[jS,ey,oN];unfold cS;rw[CU,pC];rw[kH hm aF (gA ad (eI m) _)];congr 1;cases j with
   |zero=>rw[pC];rfl
   |succ j=>
    rw[jF,jS];exact hz (fun i hi=>by rw[jF,show j+1- (i+1)=j- i by omega])) x]
  rw[E0 hm El iu,GK hm y aF ad x af];show ba m (cM m b x) y^^^(ba m (cM m (cN m r b) x) x^^^0)=ba m (ba m (cM m r x) x^^^y) (cM m b x);rw[Cq aH ad x af,eS,zQ hm (eL hm (jC hm x aH) _) aF,kH hm (jC hm x ad) aF,oR];congr 1;rw[h0 hm (jC hm x aH) (jC hm x ad) af,kH hm (jC hm x ad) af,←h0 hm (jC hm x aH) af (jC hm x ad)]
theorem sB{r:Nat}(aH:r<2^m):b2 m [r,1]:=by
 refine⟨fun x af=>?_,?_⟩
 ·simp at af;rcases af with rfl|rfl
  ·exact aH
  ·exact kC hm
 ·exact D5 (by simp[fA])
theorem PL{r:Nat}(_hr:r<2^m){x:Nat}(af:x<2^m):cM m [r,1] x=x^^^r:=by
 show ba m (ba m 0 x^^^1) x^^^r=_;rw[et,hQ,l5 hm af]
omit hm in
theorem Bg(_hm:Ok m){a b:Nat}(h:a^^^b=0):a=b:=by
 have:=ql (fun z=>z^^^b) h;simp only[hQ,h5,jy,eS] at this;exact this
omit hm in
theorem arN(_hm:Ok m){R:ae}(cy:b2 m R){r:Nat}(ab:R.length<2)(an:cM m R r=0):R=[]:=by
 rcases R with _|⟨y,_|⟨z,R⟩⟩
 ·rfl
 ·have bo:cM m [y] r=y:=by
   show ba m 0 r^^^y=y;rw[et,hQ]
  rw[bo] at an;exact absurd an (cy.jq (by simp))
 ·simp at ab;omega
theorem amV{a:ae}(aj:b2 m a){r:Nat}(aH:r<2^m)(h:cM m a r=0):∃q,b2 m q∧cN m q [r,1]=a:=by
 have bc:=sB hm aH;refine⟨mP m a [r,1],zd hm aj,?_⟩;have aa:=div_eq hm aj bc (by simp);have ab:=IG hm aj.lt bc.lt (by simp) (bc.jq (by simp)) (a:=a);have cy:=xt hm aj (b:=[r,1]);have hr:=zd hm aj (b:=[r,1]);have an:cM m a r=cM m (mV m a [r,1]) r:=by
  conv=>lhs;rw[←aa]
  rw[E0 hm (iS hm hr bc).lt cy.lt,Cq hm hr.lt bc.lt r aH,PL hm aH aH,jy,jn,hQ]
 have aK:mV m a [r,1]=[]:=arN hm cy ab (an.symm.trans h);rw[aK,D7 hm (iS hm hr bc)] at aa;exact aa
theorem Ov:∀(L:ae) {a:ae} (_:b2 m a) (_:a.length≠0) (_:L.Nodup) (_:∀x∈L,x<2^m∧cM m a x=0),L.length≤a.length- 1
 |[],_,_,_,_,_=>dg _
 |r::L,a,aj,aB,aQ,cF=>by
  obtain⟨aH,aL⟩:=cF r fX;obtain⟨q,aM,rfl⟩:=amV hm aj aH aL;have bc:=sB hm aH;have pX:q.length≠0:=fun h=>aB (by rw[kS h,sV];rfl);have hlen:=Aq hm aM bc pX (by simp);simp only[iG,A0] at hlen;have eX:=yu.1 aQ;have:=Ov L aM pX eX.2 (fun x af=>by
   obtain⟨aa,ab⟩:=cF x (eQ _ af);refine⟨aa,?_⟩;rw[Cq hm aM.lt bc.lt x aa,PL hm aH aa] at ab;refine m8 fun e7=>?_;refine o6 hm (jC hm x aM.lt) (mY aa aH) e7 (fun h=>?_) ab;exact eX.1 (Bg hm h▸af))
  simp only[iG];omega
def Dvd(m:Nat)(a b:ae):Prop:=∃q,b2 m q∧cN m q a=b
theorem dvd_refl{a:ae}(aj:b2 m a):Dvd m a a:=by
 have aa:b2 m [1]:=⟨fun x af=>by simp at af;subst af;exact kC hm,D5 (by simp[fA])⟩;refine⟨[1],aa,(iS hm aa aj).ext aj (fun j=>?_)⟩;rw[jS];rw[oT (hB:=fun i=>if i=0 then 1 else 0) (fun i _=>by cases i with|zero=>rfl|succ i=>rw[jF,lp,az (by omega)]) (fun _ _=>rfl),wZ,aD (dg _),l5 hm (aj.c _)];rfl
omit hm in
theorem ag4(_hm:Ok m){a:ae}:Dvd m a []:=⟨[],Ep m,sV m a⟩
theorem dvd_mul{a b q:ae}(aj:b2 m a)(aM:b2 m q)(h:Dvd m a b):Dvd m a (cN m q b):=by
 obtain⟨c,ag,rfl⟩:=h;exact⟨cN m q c,iS hm aM ag,x5 hm aM ag aj⟩
theorem dvd_add{a b c:ae}(aj:b2 m a)(aa:Dvd m a b)(ab:Dvd m a c):Dvd m a (cO b c):=by
 obtain⟨p,aG,rfl⟩:=aa;obtain⟨q,aM,rfl⟩:=ab;exact⟨cO p q,lu hm aG aM,Bz hm aG aM aj⟩
theorem ap8{g a b:ae}(bg:b2 m g)(aj:b2 m a)(ad:b2 m b)(iL:b.length≠0)(aa:Dvd m g b)(ab:Dvd m g (mV m a b)):Dvd m g a:=by
 rw[←div_eq hm aj ad iL];exact dvd_add hm bg (dvd_mul hm bg (zd hm aj) aa) ab
theorem ahK{g a b:ae}(bg:b2 m g)(aj:b2 m a)(ad:b2 m b)(iL:b.length≠0)(aa:Dvd m g a)(ab:Dvd m g b):Dvd m g (mV m a b):=by
 have hr:=zd hm aj (b:=b);have an:=PZ hm (iS hm hr ad) (xt hm aj (b:=b));rw[div_eq hm aj ad iL] at an;rw[←an];exact dvd_add hm bg (dvd_mul hm bg hr ab) aa
theorem Ml:∀(k:Nat) {a b:ae},b2 m a→b2 m b→b2 m (uo m k a b)
 |0,_,_,aj,_=>aj
 |k+1,a,b,aj,ad=>by
  unfold uo;split
  ·exact aj
  ·exact Ml k ad (xt hm aj)
theorem Y2:∀(k:Nat) {a b:ae},b2 m a→b2 m b→b.length<k→Dvd m (uo m k a b) a∧Dvd m (uo m k a b) b
 |0,_,_,_,_,h=>by omega
 |k+1,a,b,aj,ad,h=>by
  unfold uo;split
  ·rename_i aB;rw[kS aB];exact⟨dvd_refl hm aj,ag4 hm⟩
  ·rename_i aB;have bc:=IG hm aj.lt ad.lt aB (ad.jq aB) (a:=a);have cy:=xt hm aj (b:=b);obtain⟨aa,ab⟩:=Y2 k ad cy (by omega);exact⟨ap8 hm (Ml hm k ad cy) aj ad aB aa ab,aa⟩
theorem Zx:∀(k:Nat) {a b g:ae},b2 m a→b2 m b→b2 m g→Dvd m g a→Dvd m g b→Dvd m g (uo m k a b)
 |0,_,_,_,_,_,_,h,_=>h
 |k+1,a,b,g,aj,ad,bg,aa,ab=>by
  unfold uo;split
  ·exact aa
  ·rename_i aB;exact Zx k ad (xt hm aj) bg ab (ahK hm bg aj ad aB aa ab)
theorem Tg{a b:ae}(aj:b2 m a)(ad:b2 m b):b2 m (rK m a b):=Ml hm _ aj ad
theorem Tk{a b:ae}(aj:b2 m a)(ad:b2 m b):Dvd m (rK m a b) a∧Dvd m (rK m a b) b:=Y2 hm _ aj ad (Nat.lt_succ_self _)
theorem Zk{a b g:ae}(aj:b2 m a)(ad:b2 m b)(bg:b2 m g)(aa:Dvd m g a)(ab:Dvd m g b):Dvd m g (rK m a b):=Zx hm _ aj ad bg aa ab
omit hm in
theorem aoP{a:ae}(hm:Ok m)(aj:b2 m a){c:Nat}(ag:c<2^m)(p6:c≠0):(gU m a c).length=a.length:=by
 have aq:=yL hm aj c;refine AE (sT aq (fun j ax=>by rw[oN,dD ax,et]))<|sT aj<|fun j ax=>m8 fun e7=>?_;have:=oN m a c j;rw[dD ax] at this;exact o6 hm (aj.c j) ag e7 p6 this.symm
theorem ajn{a:ae}(aj:b2 m a){c d:Nat}(ag:c<2^m)(aW:d<2^m):gU m (gU m a c) d=gU m a (ba m c d):=
 (yL hm (yL hm aj c) d).ext (yL hm aj _) (fun j=>by rw[oN,oN,oN,h0 hm (aj.c j) ag aW])
theorem atc{a:ae}(aj:b2 m a){c:Nat}(ag:c<2^m):cN m a (trim [c])=gU m a c:=by
 have bb:b2 m (trim [c]):=⟨Dj (fun x af=>by simp at af;subst af;exact ag),G8 _⟩;refine(iS hm aj bb).ext (yL hm aj c) (fun j=>?_);rw[vX hm aj bb,jS,oT (hB:=fun i=>if i=0 then c else 0) (fun i _=>by
  rw[xn];cases i with
  |zero=>rfl
  |succ i=>rw[jF,lp,az (by omega)]) (fun _ _=>rfl),wZ,aD (dg _),oN,kH hm ag (aj.c _)]
 rfl
omit hm in
theorem Vr(_hm:Ok m){a:ae}(aB:a.length≠0):xi m a=gU m a (inv m (ap a (a.length- 1))):=if_neg aB
theorem agW{a:ae}(aj:b2 m a){c:Nat}(ag:c<2^m)(p6:c≠0):xi m (gU m a c)=xi m a:=by
 have aq:=yL hm aj c;have bc:=aoP hm aj ag p6;by_cases aB:a.length=0
 ·unfold xi;rw[aD aB,aD (by omega)]
 ·have cF:=aj.c (a.length- 1);rw[Vr hm aB,Vr hm (by omega),bc,oN,ajn hm aj ag (ph hm _)];congr 1;have aa:=aj.jq aB;generalize ap a (a.length- 1)=t at*;have bg:=eL hm cF c;have tM:=o6 hm cF ag aa p6;have ab:=EE hm bg tM;have an:=EE hm cF aa;have aK:ba m t (ba m c (inv m (ba m t c)))=ba m t (inv m t):=by rw[←h0 hm cF ag (ph hm _),ab,an]
  have bo:=ql (fun z=>ba m (inv m t) z) aK;rw[←h0 hm (ph hm _) cF (eL hm ag _),←h0 hm (ph hm _) cF (ph hm _),kH hm (ph hm t) cF,an,l5 hm (eL hm ag _),l5 hm (ph hm _)] at bo;exact bo
theorem atb{a b:ae}(aj:b2 m a)(ad:b2 m b)(aa:Dvd m a b)(ab:Dvd m b a):xi m a=xi m b:=by
 obtain⟨q,aM,rfl⟩:=aa;obtain⟨p,aG,vN⟩:=ab;by_cases h9:a.length=0
 ·rw[kS h9,PN]
 ·have pX:q.length≠0:=fun h=>by
   rw[kS h,sV,PN] at vN;rw[←vN] at h9;exact h9 I
  have ax4:=Aq hm aM aj pX h9;have iu:p.length≠0:=fun h=>by
   rw[kS h,sV] at vN;rw[←vN] at h9;exact h9 I
  have iQ:=Aq hm aG ad iu (by omega);rw[vN] at iQ;obtain⟨c,rfl⟩:∃c,q=[c]:=by
   match q,pX,(show q.length=1 by omega) with
   |[c],_,_=>exact⟨c,rfl⟩
  have ag:=aM.lt c fX;have p6:c≠0:=aM.jq (by simp);have hu:=atc hm aj ag;rw[aM.eq] at hu;rw[vX hm aM aj,hu,agW hm aj ag p6]
theorem gcd_comm{a b:ae}(aj:b2 m a)(ad:b2 m b):xi m (rK m a b)=xi m (rK m b a):=by
 have aa:=Tk hm aj ad;have ab:=Tk hm ad aj;have t1:=Tg hm aj ad;have t2:=Tg hm ad aj;exact atb hm t1 t2 (Zk hm ad aj t1 aa.2 aa.1) (Zk hm aj ad t2 ab.2 ab.1)
end
section
variable{m:Nat}
theorem Nn(m:Nat)(p:ae)(a j:Nat):ap (wy m p a) j=ap (0::p) j^^^ba m (ap p j) a:=by
 unfold wy;rw[Cw];split
 ·unfold JK;split
  ·rfl
  ·rw[dD (l:=p) (by omega),et,eS]
 ·rw[dD (l:=p) (by omega),et,dD (by simp only[iG];omega)];rfl
variable(hm:Ok m)
include hm
omit hm in
theorem Qg(_hm:Ok m){p:ae}(aG:∀x∈p,x<2^m):∀x∈0::p,x<2^m:=fun x af=>by
 rcases ei.1 af with rfl|af
 ·exact eI m
 ·exact aG x af
theorem ahy{p:ae}(aG:∀x∈p,x<2^m){a:Nat}(aj:a<2^m){x:Nat}(af:x<2^m):cM m (wy m p a) x=ba m (cM m p x) (x^^^a):=by
 have El:∀z∈gU m p a,z<2^m:=(kz (fun j=>eL hm (gA aG (eI m) j) a)).lt;rw[s8 (b:=cO (0::p) (gU m p a)) (fun j=>by rw[Nn,ey,oN]) x,E0 hm (Qg hm aG) El,GK hm a aj aG x af,z8];show ba m (cM m p x) x^^^0^^^_=_;rw[eS]
omit hm in
theorem ab4(_hm:Ok m)(l:b3):∀i,ap (iC m l i) i=1
 |0=>rfl
 |i+1=>by
  show ap (wy m (iC m l i) _) (i+1)=1;rw[Nn,jF,ab4 _hm l i,dD (by rw[E8];omega),et];rfl
theorem B5(l:b3)(i:Nat):b2 m (iC m l i):=by
 refine⟨Lt hm l i,D5 ?_⟩;have aa:=lQ (iC m l i);have ab:=E8 m l i;have an:=ab4 hm l i;refine AE aa (nV fun ca=>?_);rw[zw (iC m l i) i (by omega)] at an;cases an
def Cv(m:Nat)(l:b3)(x:Nat):Nat→Nat
 |0=>0
 |i+1=>if lo m (l.getD i 0)=x then Cv m l x i+1 else Cv m l x i
theorem TO(l:b3){x:Nat}(af:x<2^m):∀i,cM m (iC m l i) x=0↔0<Cv m l x i
 |0=>by
  show ba m 0 x^^^1=0↔0<0;rw[et];simp
 |i+1=>by
  have ih:=TO l af i;have aG:=Lt hm l i;have aj:=lJ m (l.getD i 0);show cM m (wy m (iC m l i) (lo m (l.getD i 0))) x=0↔_;rw[ahy hm aG aj af];unfold Cv;by_cases h:lo m (l.getD i 0)=x
  ·rw[aD h,h,jy,jn];simp
  ·rw[az h,←ih];constructor
   ·intro ab;refine m8 fun e7=>o6 hm (jC hm x aG) (mY af aj) e7 (fun an=>h (Bg hm an).symm) ab
   ·intro ab;rw[ab,et]
end
theorem gn:Ok 3:=⟨by decide,by decide⟩
def cz(l:ae)(j:Nat):Nat:=(ap l (j/ 8)>>>(j%8))%2
theorem vR(l:ae)(j:Nat):cz l j<2:=Nat.mod_lt _ (by omega)
theorem qs{l:ae}{j:Nat}(h:8*l.length≤j):cz l j=0:=by
 unfold cz;rw[dD (by omega)];simp
theorem qu(l:ae)(i s:Nat)(aq:s<8):cz l (8*i+s)=((ap l i).testBit s).toNat:=by
 unfold cz;rw[show(8*i+s)/ 8=i by omega,show(8*i+s)%8=s by omega,uT,jp];rcases w5 (ap l i/ 2^s) with h|h<;>rw[h]<;>simp
def bA(l:ae):ae:=pl (8*l.length) (cz l)
theorem gV(l:ae)(j:Nat):ap (bA l) j=cz l j:=by
 unfold bA;rw[jh];split
 ·rfl
 ·exact(qs (by omega)).symm
structure cc(a:ae):Prop where
 cI:b2 3 a
 le:∀j,ap a j<2
theorem en(l:ae):cc (bA l):=⟨kz (fun j=>Nat.lt_trans (vR l j) (by decide)),fun j=>by rw[gV];exact vR l j⟩
theorem MM{x y:Nat}(af:x<256)(aF:y<256)(h:∀s,s<8→x.testBit s=y.testBit s):x=y:=by
 apply acn;intro s;by_cases aq:s<8
 ·exact h s aq
 ·have e:∀z,z<256→z.testBit s=false:=fun z aL=>xV (h6 aL (px (n:=2) (by omega) (show 8≤s by omega)));rw[e x af,e y aF]
theorem toNat_inj{a b:Bool}(h:a.toNat=b.toNat):a=b:=by cases a<;>cases b<;>simp_all
theorem ahz{a b:ae}(aj:b2 8 a)(ad:b2 8 b)(h:∀j,cz a j=cz b j):a=b:=
 aj.ext ad (fun i=>MM (aj.c i) (ad.c i) (fun s aq=>by
  have:=h (8*i+s);rw[qu _ _ _ aq,qu _ _ _ aq] at this;exact toNat_inj this))
def hM(f:Nat→Nat):Nat→Nat
 |0=>0
 |n+1=>hM f n+f n*2^n
theorem oS{f:Nat→Nat}(aI:∀j,f j<2):∀n,hM f n<2^n∧∀s,s<n→((hM f n).testBit s).toNat=f s
 |0=>⟨by show 0<1;omega,fun s h=>by omega⟩
 |n+1=>by
  obtain⟨aa,ab⟩:=oS aI n;have nF:=aI n;have e:hM f (n+1)=2^n*f n+hM f n:=by
   show hM f n+f n*2^n=_;rw[o3 (f n),B8]
  refine⟨?_,fun s aq=>?_⟩
  ·rw[e,x4];have:2^n*f n≤2^n*1:=ID _ (by omega);omega
  ·rw[e,S6 _ aa];by_cases h:s<n
   ·rw[aD h];exact ab s h
   ·obtain rfl:s=n:=by omega
    rw[az (by omega),rL];rcases(show f s=0∨f s=1 by omega) with aB|aB<;>rw[aB]<;>decide
def dZ(a:ae):ae:=pl ((a.length+7)/ 8) (fun i=>hM (fun s=>ap a (8*i+s)) 8)
theorem QF{a:ae}(h:∀j,ap a j<2):b2 8 (dZ a):=kz (fun i=>(oS (fun s=>h (8*i+s)) 8).1)
theorem GZ{a:ae}(h:∀j,ap a j<2)(j:Nat):cz (dZ a) j=ap a j:=by
 have e:=qu (dZ a) (j/ 8) (j%8) (fV _ (by omega));rw[show 8*(j/ 8)+j%8=j by omega] at e;rw[e];unfold dZ;rw[jh];split
 ·rw[(oS (fun s=>h (8*(j/ 8)+s)) 8).2 _ (fV _ (by omega)),show 8*(j/ 8)+j%8=j by omega]
 ·rw[dD (by omega)];simp
theorem FG{a:ae}(h:cc a):bA (dZ a)=a:=(en _).cI.ext h.cI (fun j=>by rw[gV,GZ h.le])
theorem On{l a:ae}(bc:∀x∈l,x<256)(aj:cc a)(h:∀j,cz l j=ap a j):trim l=dZ a:=
 ahz (a:=trim l) ⟨fun x af=>Dj bc x af,G8 l⟩ (QF aj.le) (fun j=>by
  rw[GZ aj.le,←h];unfold cz;rw[xn])
theorem CR(a:ae):(dZ a).length≤(a.length+7)/ 8:=by
 unfold dZ pl;rw[kY];simpa using lQ ((List.range ((a.length+7)/ 8)).map fun i=>hM (fun s=>ap a (8*i+s)) 8)
theorem xl(l:ae):(bA l).length≤8*l.length:=by
 unfold bA pl;rw[kY];simpa using lQ ((List.range (8*l.length)).map (cz l))
theorem uq(l:ae):bA (trim l)=bA l:=(en _).cI.ext (en _).cI (fun j=>by
 rw[gV,gV];unfold cz;rw[xn])
theorem EQ{a b:Nat}(aj:a<2)(ad:b<2):a^^^b<2:=Nat.xor_lt_two_pow (n:=1) aj ad
theorem auP{a b:Nat}(aj:a<2)(ad:b<2):ba 3 a b=a*b:=by
 rcases(show a=0∨a=1 by omega) with rfl|rfl<;>rcases(show b=0∨b=1 by omega) with rfl|rfl<;>decide
theorem aaN{a b:Nat}(aj:a<2)(ad:b<2):ba 3 a b<2:=by
 rw[auP aj ad];rcases(show a=0∨a=1 by omega) with rfl|rfl<;>omega
theorem SX{f:Nat→Nat}:∀{n:Nat},(∀i,i<n→f i<2)→xs f n<2
 |0,_=>by show 0<2;omega
 |n+1,h=>EQ (SX (fun i hi=>h i (by omega))) (h n (by omega))
theorem iM{a b:ae}(aj:cc a)(ad:cc b):cc (cO a b):=⟨lu gn aj.cI ad.cI,fun j=>by rw[ey];exact EQ (aj.le j) (ad.le j)⟩
theorem uM{a b:ae}(aj:cc a)(ad:cc b):cc (cN 3 a b):=⟨iS gn aj.cI ad.cI,fun j=>by
 rw[jS];exact SX (fun i _=>aaN (aj.le _) (ad.le _))⟩
theorem aiC{m:Nat}(hm:Ok m):inv m 1=1:=by
 have:=EE hm (kC hm) (by omega);rw[l5 hm (ph hm _)] at this;exact this
theorem cc.jq{a:ae}(h:cc a)(aB:a.length≠0):ap a (a.length- 1)=1:=by
 have aa:=h.cI.jq aB;have ab:=h.le (a.length- 1);omega
theorem zV:cc []:=⟨Ep 3,fun j=>by rw[lp];omega⟩
theorem akl{f:Nat→Nat}(h:∀j,f j<2)(j:Nat):f j<2^3:=Nat.lt_trans (h j) (by decide)
theorem QR{b:ae}(ad:cc b)(aB:b.length≠0){R:Nat→Nat}(cy:∀j,R j<2)(n:Nat):to 3 b R n<2:=by
 unfold to;rw[ad.jq aB,aiC gn,ur gn (akl cy _)];exact cy _
theorem V7{b:ae}(ad:cc b){R:Nat→Nat}(cy:∀j,R j<2){n c i:Nat}(ag:c<2)(j:Nat):te 3 b R n c i j<2:=by
 unfold te;split
 ·exact EQ (cy j) (aaN ag (ad.le _))
 ·exact cy j
theorem W0{b:ae}(ad:cc b)(aB:b.length≠0):∀(n:Nat) {R:Nat→Nat},(∀j,R j<2)→∀j,re 3 b n R j<2
 |0,_,cy,j=>cy j
 |n+1,_,cy,j=>W0 ad aB n (fun j=>V7 ad cy (QR ad aB cy n) j) j
theorem VI{b:ae}(ad:cc b)(aB:b.length≠0):∀(n:Nat) {R:Nat→Nat},(∀j,R j<2)→∀j,mn 3 b n R j<2
 |0,_,_,_=>by show 0<2;omega
 |n+1,R,cy,j=>by
  unfold mn;split
  ·exact QR ad aB cy n
  ·exact VI ad aB n (fun j=>V7 ad cy (QR ad aB cy n) j) j
theorem zE{a b:ae}(aj:cc a)(ad:cc b)(aB:b.length≠0):cc (mP 3 a b):=⟨zd gn aj.cI,fun j=>by rw[abD gn];exact VI ad aB _ aj.le j⟩
theorem aqD{a b:ae}(aj:cc a)(ad:cc b)(aB:b.length≠0):cc (mV 3 a b):=⟨xt gn aj.cI,fun j=>by rw[acp gn aj.cI ad.cI aB];exact W0 ad aB _ aj.le j⟩
def eC(n:Nat)(a:ae):ae:=pl (n+a.length) (fun j=>if n≤j then ap a (j- n) else 0)
def oL(n:Nat)(a:ae):ae:=pl a.length (fun j=>ap a (j+n))
theorem jM(n:Nat)(a:ae)(j:Nat):ap (eC n a) j=if n≤j then ap a (j- n) else 0:=by
 unfold eC;rw[jh];split
 ·rfl
 ·split
  ·rw[dD (by omega)]
  ·rfl
theorem zi(n:Nat)(a:ae)(j:Nat):ap (oL n a) j=ap a (j+n):=by
 unfold oL;rw[jh];split
 ·rfl
 ·rw[dD (by omega)]
theorem gR{a:ae}(aj:cc a)(n:Nat):cc (eC n a):=⟨kz (fun j=>by split;exact aj.cI.c _;decide),fun j=>by rw[jM];split;exact aj.le _;omega⟩
theorem u1{a:ae}(aj:cc a)(n:Nat):cc (oL n a):=⟨kz (fun j=>aj.cI.c _),fun j=>by rw[zi];exact aj.le _⟩
def tg(n:Nat):ae:=eC n [1]
theorem ZI:cc [1]:=⟨⟨by decide,by decide⟩,fun j=>by cases j with|zero=>decide|succ j=>rw[jF,lp];omega⟩
theorem qL(n:Nat):cc (tg n):=gR ZI n
theorem Kz(n j:Nat):ap (tg n) j=if j=n then 1 else 0:=by
 unfold tg;rw[jM];by_cases h:j=n
 ·subst h;rw[aD (cq _),aD rfl,rL];rfl
 ·rw[az h];split
  ·rw[dD (by simp;omega)]
  ·rfl
theorem AH{a:ae}(aj:cc a)(n:Nat):cN 3 a (tg n)=eC n a:=by
 rw[vX gn aj.cI (qL n).cI];refine(iS gn (qL n).cI aj.cI).ext (gR aj n).cI (fun j=>?_);rw[jS,oT (hB:=fun i=>if i=n then 1 else 0) (fun i _=>Kz n i) (fun _ _=>rfl),wZ,jM];split
 ·rw[l5 gn (aj.cI.c _)]
 ·rfl
end Go.Proofs.YtcgjepodnfjggaaGreatDoor
end
section
namespace Go.Proofs.YtcgjepodnfjggaaGreatDoor
open Go Go.a6 Go.cv
def pF(b:Nat)(a:ae):ae:=pl (a.length+1) (fun j=>if j=0 then b else ap a (j- 1))
theorem P1(b:Nat)(a:ae)(j:Nat):ap (pF b a) j=if j=0 then b else ap a (j- 1):=by
 unfold pF;rw[jh];split
 ·rfl
 ·rw[az (by omega),dD (by omega)]
theorem Dn{b:Nat}(ad:b<2){a:ae}(aj:cc a):cc (pF b a):=by
 have h:∀j,ap (pF b a) j<2:=fun j=>by
  rw[P1];split
  ·exact ad
  ·exact aj.le _
 exact⟨kz (fun j=>by
  split
  ·exact KR ad (by decide)
  ·exact aj.cI.c _),h⟩
theorem pM{a b:ae}(aj:cc a)(ad:cc b)(h:∀j,ap a j=ap b j):a=b:=aj.cI.ext ad.cI h
theorem yY{a:ae}(h:cc a){n:Nat}(aL:∀j,n≤j→ap a j=0):a.length≤n:=Nat.le_of_not_lt fun bc=>h.cI.jq (by omega) (aL _ (by omega))
theorem BI{n:Nat}{f:Nat→Nat}(aI:∀j,f j<2):cc (pl n f):=⟨kz (fun j=>Nat.lt_trans (aI j) (by decide)),fun j=>by
 rw[jh];split
 ·exact aI j
 ·omega⟩
theorem adG{a:ae}(aj:cc a):cN 3 [1] a=a:=by
 have e:tg 0=[1]:=by decide+kernel
 rw[←e,vX gn (qL 0).cI aj.cI,AH aj];exact pM (gR aj 0) aj (fun j=>by rw[jM,aD (by omega),nk])
section
variable{G:ae}(b9:cc G)(ab:2≤G.length)
noncomputable def ch(G A:ae):ae:=mV 3 (eC (G.length- 1) A) G
include b9 ab
theorem mo{A:ae}(bs:cc A):cc (ch G A):=aqD (gR bs _) b9 (by omega)
theorem xu{A:ae}(bs:cc A):(ch G A).length≤G.length- 1:=by
 have:=IG gn (gR bs (G.length- 1)).cI.lt b9.cI.lt (by omega) (b9.cI.jq (by omega));unfold ch;omega
theorem AL{A:ae}(bs:cc A):cO (cN 3 (mP 3 (eC (G.length- 1) A) G) G) (ch G A)=eC (G.length- 1) A:=div_eq gn (gR bs _).cI b9.cI (by omega)
theorem J3{A q r:ae}(bs:cc A)(aM:cc q)(aH:cc r)(bc:r.length<G.length)(h:cO (cN 3 q G) r=eC (G.length- 1) A):ch G A=r:=(Pd gn (gR bs _).cI b9.cI (by omega) aM.cI aH.cI bc h).2.symm
theorem RJ{A B:ae}(bs:cc A)(bV:cc B):ch G (cO A B)=cO (ch G A) (ch G B):=by
 have EV:=AL b9 ab bs;have alm:=AL b9 ab bV;have Ft:=xu b9 ab bs;have avS:=xu b9 ab bV;have ux:=mo b9 ab bs;have LA:=mo b9 ab bV;have lL:=zE (gR bs (G.length- 1)) b9 (by omega);have N0:=zE (gR bV (G.length- 1)) b9 (by omega);generalize mP 3 (eC (G.length- 1) A) G=fG at*;generalize mP 3 (eC (G.length- 1) B) G=da at*;refine J3 b9 ab (iM bs bV) (iM lL N0) (iM ux LA) (lU (yY (n:=G.length- 1) (iM ux LA) (fun j ax=>by rw[ey,dD (by omega),dD (by omega)];rfl)) (by omega))<|pM (iM (uM (iM lL N0) b9) (iM ux LA)) (gR (iM bs bV) _) (fun j=>?_);have alt:ap (cN 3 fG G) j^^^ap (ch G A) j=ap (eC (G.length- 1) A) j:=by rw[←ey,EV]
 have anu:ap (cN 3 da G) j^^^ap (ch G B) j=ap (eC (G.length- 1) B) j:=by rw[←ey,alm]
 have hu:ap (eC (G.length- 1) (cO A B)) j=ap (eC (G.length- 1) A) j^^^ap (eC (G.length- 1) B) j:=by
  rw[jM,jM,jM];split
  ·exact ey _ _ _
  ·rfl
 rw[ey,ey,Bz gn lL.cI N0.cI b9.cI,ey,hu,←alt,←anu,←h5,←h5,h5 (ap (cN 3 fG G) j),oR (ap (cN 3 da G) j) (ap (ch G A) j),←h5]
theorem aaH:ch G []=[]:=by
 refine J3 b9 ab zV zV zV (by simp;omega) ?_;rw[sV,D7 gn (Ep 3)];exact pM zV (gR zV _) (fun j=>by rw[jM,lp,lp,ite_self])
theorem Xj{A:ae}(bs:cc A){b:Nat}(ad:b<2)(j:Nat):ap (ch G (pF b A)) j=if j<G.length- 1 then(if j=0 then 0 else ap (ch G A) (j- 1))^^^(b^^^ap (ch G A) (G.length- 1- 1))*ap G j else 0:=by
 have EV:=AL b9 ab bs;have Ft:=xu b9 ab bs;have ux:=mo b9 ab bs;have lL:=zE (gR bs (G.length- 1)) b9 (by omega);generalize mP 3 (eC (G.length- 1) A) G=q at*;generalize cy:ch G A=R at*;generalize aW:G.length- 1=d at*;have av:b^^^ap R (d- 1)<2:=EQ ad (ux.le _);generalize ata:b^^^ap R (d- 1)=out at*;have hmul:∀j,out*ap G j<2:=fun j=>by
  have:=b9.le j;rcases(show out=0∨out=1 by omega) with h|h<;>rw[h]<;>omega
 have hO:cc (pl d (fun j=>(if j=0 then 0 else ap R (j- 1))^^^out*ap G j)):=BI (fun j=>EQ (by split;omega;exact ux.le _) (hmul j));have ER:cc (pl 1 (fun _=>out)):=BI (fun _=>av);have key:ch G (pF b A)=pl d (fun j=>(if j=0 then 0 else ap R (j- 1))^^^out*ap G j):=by
  refine J3 b9 ab (Dn ad bs) (iM (gR lL 1) ER) hO (by
   have:(pl d (fun j=>(if j=0 then 0 else ap R (j- 1))^^^out*ap G j)).length≤d:=yY hO (fun j ax=>by rw[jh,az (by omega)]);omega) ?_
  refine pM (iM (uM (iM (gR lL 1) ER) b9) hO) (gR (Dn ad bs) _) (fun j=>?_);have bu:cN 3 (eC 1 q) G=eC 1 (cN 3 q G):=by
   rw[←AH lL,←AH (uM lL b9),x5 gn lL.cI (qL 1).cI b9.cI,vX gn (qL 1).cI b9.cI,←x5 gn lL.cI b9.cI (qL 1).cI]
  have bD:ap (cN 3 (pl 1 (fun _=>out)) G) j=out*ap G j:=by
   rcases(show out=0∨out=1 by omega) with h|h
   ·have:pl 1 (fun _=>out)=[]:=by rw[h];rfl
    rw[this,sV,lp,h,jc]
   ·have:pl 1 (fun _=>out)=[1]:=by rw[h];rfl
    rw[this,adG b9,h,q3]
  have dl:∀i,ap (cN 3 q G) i=ap (eC d A) i^^^ap R i:=fun i=>by
   rw[←EV,ey,h5,jy,eS]
  have ajE:ap G d=1:=by have:=b9.jq (by omega);rwa [aW] at this
  have go:d<j→ap G j=0:=fun h=>dD (by omega);rw[ey,Bz gn (gR lL 1).cI ER.cI b9.cI,ey,bu,bD,jM 1,dl,aW,jM d,jM d,P1,jh];by_cases aB:j=0
  ·subst aB;rw[az (by omega),aD (by omega),aD rfl,az (by omega),hQ];exact jy _
  ·rw[aD (by omega),az aB];by_cases aa:j<d
   ·rw[az (by omega),aD aa,az (by omega),hQ];exact jy _
   ·rw[az aa,eS,aD (show d≤j by omega)];by_cases an:j=d
    ·subst an;rw[az (show ¬j≤j- 1 by omega),hQ,aD (show j- j=0 by omega),ajE,dJ,←ata,oR b,←h5,jy,hQ]
    ·have Er:ap R (j- 1)=0:=dD (by omega);have g0:ap G j=0:=dD (by omega);rw[aD (show d≤j- 1 by omega),Er,g0,JD,eS,eS,az (show ¬j- d=0 by omega),show j- 1- d=j- d- 1 by omega]
 rw[key,jh]
end
theorem yZ{L:ae}(cF:∀x∈L,x<256)(i:Nat):ap L i<256:=gA cF (by decide) i
def fy(n:Nat)(f:Nat→Nat):ae:=(List.range n).map f
theorem nc(n:Nat)(f:Nat→Nat):(fy n f).length=n:=by simp[fy]
theorem yi{n i:Nat}{f:Nat→Nat}(h:i<n):(fy n f)[i]?=some (f i):=by simp[fy,h]
theorem wN{n i:Nat}{f:Nat→Nat}(h:i<n):ap (fy n f) i=f i:=by
 unfold ap;rw[eM,yi h];rfl
theorem Hh{n:Nat}{f g:Nat→Nat}(h:∀i,i<n→f i=g i):fy n f=fy n g:=List.map_congr_left (fun i hi=>h i (List.mem_range.1 hi))
theorem Uv(l:ae):fy l.length (ap l)=l:=by
 apply jB;intro i;by_cases h:i<l.length
 ·rw[yi h,p7 h]
 ·rw[iq (by rw[nc];omega),iq (by omega)]
theorem aai{n i:Nat}{f:Nat→Nat}(v:Nat):(fy n f).set i v=fy n (fun j=>if j=i then v else f j):=by
 apply jB;intro j;rw[rG];by_cases ax:j<n
 ·rw[yi ax,yi ax,nc];by_cases h:i=j
  ·subst h;rw[aD rfl,aD ax,aD rfl]
  ·rw[az h,az (n4 h)]
 ·rw[iq (l:=fy n f) (by rw[nc];omega),iq (l:=fy n fun j=>if j=i then v else f j) (by rw[nc];omega),nc];by_cases h:i=j
  ·rw[aD h,az (by omega)]
  ·rw[az h]
theorem It{n b:Nat}{f:Nat→Nat}(h:∀i,i<n→f i<b):∀x∈fy n f,x<b:=fun x af=>by
 obtain⟨i,hi,e⟩:=gE.1 af;rw[←e];exact h i (pT.1 hi)
def gm(k:Nat)(a:ae):ae:=fy k (fun i=>hM (fun s=>ap a (8*i+s)) 8)
theorem Cp(k:Nat)(a:ae):(gm k a).length=k:=nc _ _
theorem vG{a:ae}(aj:cc a)(k:Nat):∀x∈gm k a,x<256:=It (fun i _=>(oS (fun s=>aj.le (8*i+s)) 8).1)
theorem zp{a:ae}(aj:cc a){k i s:Nat}(hi:i<k)(aq:s<8):((ap (gm k a) i).testBit s).toNat=ap a (8*i+s):=by
 unfold gm;rw[wN hi];exact(oS (fun s=>aj.le (8*i+s)) 8).2 s aq
theorem C8{L a:ae}(aj:cc a)(cF:∀x∈L,x<256)(h:∀i s,i<L.length→s<8→((ap L i).testBit s).toNat=ap a (8*i+s)):L=gm L.length a:=by
 have e:=Uv L;rw[←e];unfold gm;rw[nc];refine Hh (fun i hi=>MM (yZ cF i) (oS (fun s=>aj.le (8*i+s)) 8).1 (fun s aq=>toNat_inj ?_));rw[h i s hi aq];exact((oS (fun s=>aj.le (8*i+s)) 8).2 s aq).symm
theorem Sb{a:ae}(aj:cc a){k j:Nat}(h:j<8*k):cz (gm k a) j=ap a j:=by
 have e:=qu (gm k a) (j/ 8) (j%8) (fV _ (by omega));rw[show 8*(j/ 8)+j%8=j by omega] at e;rw[e,zp aj (by omega) (fV _ (by omega)),show 8*(j/ 8)+j%8=j by omega]
theorem ahM(k:Nat):List.replicate k 0=gm k []:=by
 have h:=C8 (L:=List.replicate k 0) (a:=[]) zV (fun x af=>by rw[(BR.1 af).2];decide) (fun i s hi aq=>by
  have:ap (List.replicate k 0) i=0:=by unfold ap;rw[eM,Iu];split<;>rfl
  rw[this,lp];simp)
 rwa [jI] at h
def q7(L:ae)(i:Nat):Nat:=ap L i*2^1%256|||(ap L (i- 1)>>>7)
theorem Xc(x s:Nat)(aq:s<8):(x*2^1%256).testBit s=if s=0 then false else x.testBit (s- 1):=by
 rw[show(256:Nat)=2^8 from rfl,vc,ek aq,mU,o3,acH];by_cases h:s=0
 ·subst h;rfl
 ·rw[az h,ek (by omega),mU]
theorem ak3{L:ae}(cF:∀x∈L,x<256){i s:Nat}(aq:s<8):(q7 L i).testBit s=if s=0 then(ap L (i- 1)).testBit 7 else(ap L i).testBit (s- 1):=by
 unfold q7;rw[RH,Xc _ s aq,LF];by_cases h:s=0
 ·subst h;rw[aD rfl,aD rfl,LV]
 ·rw[az h,az h];have:(ap L (i- 1)).testBit (7+s)=false:=xV (h6 (yZ cF _) (show 2^8≤2^(7+s) from px (by omega) (by omega)));rw[this,NO]
theorem SB{L:ae}(cF:∀x∈L,x<256)(i:Nat):q7 L i<256:=by
 unfold q7;refine Bb (n:=8) (fV _ (by decide)) ?_;have:=yZ cF (i- 1);rw[jp];omega
def mA(d:Nat)(L:ae)(i:Nat):Nat:=
 let v:=if i=0 then ap L 0*2^1%256 else q7 L i
 if i=L.length- 1∧d%8≠0 then v%2^(d%8) else v
theorem T9{L:ae}(cF:∀x∈L,x<256)(d i:Nat):mA d L i<256:=by
 unfold mA;have br:(if i=0 then ap L 0*2^1%256 else q7 L i)<256:=by
  split
  ·exact fV _ (by decide)
  ·exact SB cF i
 simp only;split
 ·exact lU (Nat.mod_le _ _) br
 ·exact br
theorem ap6{d:Nat}(aW:1≤d){R:ae}(cy:cc R){i s:Nat}(hi:i<(d+7)/ 8)(aq:s<8):((mA d (gm ((d+7)/ 8) R) i).testBit s).toNat=if 8*i+s<d then(if 8*i+s=0 then 0 else ap R (8*i+s- 1)) else 0:=by
 have cF:=vG cy ((d+7)/ 8);have br:(((if i=0 then ap (gm ((d+7)/ 8) R) 0*2^1%256 else q7 (gm ((d+7)/ 8) R) i)).testBit s).toNat=if 8*i+s=0 then 0 else ap R (8*i+s- 1):=by
  by_cases aB:i=0
  ·subst aB;rw[aD rfl,Xc _ s aq];by_cases h:s=0
   ·subst h;rfl
   ·rw[az h,az (by omega),zp cy hi (by omega),show 8*0+s- 1=8*0+(s- 1) by omega]
  ·rw[az aB,ak3 cF aq];by_cases h:s=0
   ·subst h;rw[aD rfl,az (by omega),zp cy (by omega) (by omega),show 8*i+0- 1=8*(i- 1)+7 by omega]
   ·rw[az h,az (by omega),zp cy hi (by omega),show 8*i+s- 1=8*i+(s- 1) by omega]
 unfold mA;rw[Cp];simp only;split
 ·rename_i ag;rw[vc];by_cases h:s<d%8
  ·rw[ek h,mU,br,aD (show 8*i+s<d by omega)]
  ·rw[df h,Nh,az (show ¬8*i+s<d by omega)];rfl
 ·rename_i ag;rw[br,aD (show 8*i+s<d by omega)]
section
variable{G:ae}(b9:cc G)(ab:2≤G.length)
def BF(G:ae):ae:=pl (G.length- 1) (ap G)
include b9 ab
theorem KA:cc (BF G):=by have:=ab;exact BI b9.le
theorem abp(j:Nat):ap (BF G) j=if j<G.length- 1 then ap G j else 0:=by have:=ab;have:=b9;exact jh _ _ _
theorem acX{A:ae}(bs:cc A){b:Nat}(ad:b<2):gm ((G.length- 1+7)/ 8) (ch G (pF b A))=fy ((G.length- 1+7)/ 8) (fun i=>mA (G.length- 1) (gm ((G.length- 1+7)/ 8) (ch G A)) i^^^(if b=ap (ch G A) (G.length- 1- 1) then 0 else ap (gm ((G.length- 1+7)/ 8) (BF G)) i)):=by
 have c4:=mo b9 ab bs;have iy:=mo b9 ab (Dn ad bs);have bc:=KA b9 ab;have O5:=vG bc ((G.length- 1+7)/ 8);have h:=C8 (L:=fy ((G.length- 1+7)/ 8) (fun i=>mA (G.length- 1) (gm ((G.length- 1+7)/ 8) (ch G A)) i^^^(if b=ap (ch G A) (G.length- 1- 1) then 0 else ap (gm ((G.length- 1+7)/ 8) (BF G)) i))) iy (It (fun i _=>mR (n:=8) (T9 (vG c4 _) _ _) (by
  split
  ·decide
  ·exact yZ O5 i))) (fun i s hi aq=>by
  rw[nc] at hi;rw[wN hi,DH,Xj b9 ab bs ad];have aa:=ap6 (d:=G.length- 1) (by omega) c4 hi aq;have an:=zp bc hi aq;have bb:=c4.le (G.length- 1- 1);rw[abp b9 ab] at an;have af:∀p q:Bool,(p^^q).toNat=p.toNat^^^q.toNat:=by decide
  rw[af,aa];by_cases ax:8*i+s<G.length- 1
  ·rw[aD ax] at an;rw[aD ax,aD ax];congr 1;by_cases Eh:b=ap (ch G A) (G.length- 1- 1)
   ·rw[aD Eh,←Eh,jy,jc];simp
   ·rw[az Eh,an];have:b^^^ap (ch G A) (G.length- 1- 1)=1:=by
     rcases(show b=0∨b=1 by omega) with h|h<;>rcases(show ap (ch G A) (G.length- 1- 1)=0∨ap (ch G A) (G.length- 1- 1)=1 by omega) with aK|aK<;>rw[h,aK] at Eh⊢ <;>simp at Eh⊢
    rw[this,q3]
  ·rw[az ax] at an;rw[az ax,az ax];split
   ·simp
   ·rw[an];rfl)
 rw[nc] at h;exact h.symm
end
theorem Rp{D:ae}(eg:cc D)(j:Nat):oL j D=pF (ap D j) (oL (j+1) D):=pM (u1 eg j) (Dn (eg.le j) (u1 eg _)) (fun i=>by
 rw[P1,zi,zi];by_cases h:i=0
 ·subst h;rw[aD rfl,iO]
 ·rw[az h,show i- 1+(j+1)=i+j by omega])
theorem alA{D:ae}(eg:cc D){j:Nat}(h:D.length≤j):oL j D=[]:=pM (u1 eg j) zV (fun i=>by rw[zi,dD (by omega),lp])
theorem No{D:ae}(eg:cc D):oL 0 D=D:=pM (u1 eg 0) eg (fun i=>by rw[zi,Nat.add_zero])
theorem aha(y:Nat)(l:ae):bA (y::l)=cO (eC 8 (bA l)) (bA [y]):=pM (en _) (iM (gR (en l) 8) (en _)) (fun j=>by
 rw[ey,gV,jM,gV [y]];by_cases h:8≤j
 ·rw[aD h,gV,qs (l:=[y]) (by simpa using h),eS];unfold cz;rw[show j/ 8=(j- 8)/ 8+1 by omega,jF,show j%8=(j- 8)%8 by omega]
 ·rw[az h,hQ];unfold cz;rw[show j/ 8=0 by omega];rfl)
section
variable{G:ae}(b9:cc G)(ab:2≤G.length)
include b9 ab
theorem aec(uw:9≤G.length){A D:ae}(bs:cc A)(eg:cc D):ch G (cO (eC 8 A) D)=cO (pl (G.length- 1) (fun j=>if 8≤j then ap (ch G A) (j- 8) else 0)) (ch G (cO (pl 8 (fun s=>ap (ch G A) (G.length- 1- 8+s))) D)):=by
 have ux:=mo b9 ab bs;have Ft:=xu b9 ab bs;have cE:=BI (n:=8) (f:=fun s=>ap (ch G A) (G.length- 1- 8+s)) (fun s=>ux.le _);have dU:=BI (n:=G.length- 1) (f:=fun j=>if 8≤j then ap (ch G A) (j- 8) else 0) (fun s=>by split;exact ux.le _;omega);rw[RJ b9 ab (gR bs 8) eg,RJ b9 ab cE eg];have key:ch G (eC 8 A)=cO (pl (G.length- 1) (fun j=>if 8≤j then ap (ch G A) (j- 8) else 0)) (ch G (pl 8 (fun s=>ap (ch G A) (G.length- 1- 8+s)))):=by
  have EV:=AL b9 ab bs;have auZ:=AL b9 ab cE;have L2:=mo b9 ab cE;have awL:=xu b9 ab cE;have lL:=zE (gR bs (G.length- 1)) b9 (by omega);have Pk:=zE (gR cE (G.length- 1)) b9 (by omega);generalize mP 3 (eC (G.length- 1) A) G=q at*;generalize mP 3 (eC (G.length- 1) (pl 8 fun s=>ap (ch G A) (G.length- 1- 8+s))) G=da at*;generalize ch G (pl 8 fun s=>ap (ch G A) (G.length- 1- 8+s))=ajt at*;generalize cy:ch G A=R at*;generalize aW:G.length- 1=d at*;refine J3 b9 ab (gR bs 8) (iM (gR lL 8) Pk) (iM dU L2) (lU (yY (n:=d) (iM dU L2) (fun j ax=>by rw[ey,jh,az (by omega),dD (by omega)];rfl)) (by omega)) ?_;have bu:cN 3 (eC 8 q) G=eC 8 (cN 3 q G):=by
   rw[←AH lL,←AH (uM lL b9),x5 gn lL.cI (qL 8).cI b9.cI,vX gn (qL 8).cI b9.cI,←x5 gn lL.cI b9.cI (qL 8).cI]
  refine pM (iM (uM (iM (gR lL 8) Pk) b9) (iM dU L2)) (gR (gR bs 8) _) (fun j=>?_);have dl:∀i,ap (cN 3 q G) i=ap (eC d A) i^^^ap R i:=fun i=>by
   rw[←EV,ey,h5,jy,eS]
  have ii:∀i,ap (cN 3 da G) i^^^ap ajt i=ap (eC d (pl 8 fun s=>ap R (d- 8+s))) i:=fun i=>by rw[←auZ,ey]
  rw[ey,Bz gn (gR lL 8).cI Pk.cI b9.cI,ey,ey,bu,jM 8,dl,aW,jM d,jh];have kq:=ii j;rw[jM,jh] at kq;have apO:∀a b c e:Nat,a^^^b^^^(c^^^e)=a^^^c^^^(b^^^e):=fun a b c e=>by
   rw[h5,h5,←h5 b,←h5 c,oR b c]
  rw[apO,kq,jM d,jM 8];by_cases fq:8≤j
  ·by_cases ax:j<d
   ·simp only[fq,ax,show ¬d≤j- 8 by omega,show ¬d≤j by omega,jU,oy,hQ,eS];exact jy _
   ·by_cases Gz:j- d<8
    ·simp only[fq,ax,Gz,show ¬d≤j- 8 by omega,show d≤j by omega,show ¬8≤j- d by omega,jU,oy,hQ,eS,show d- 8+(j- d)=j- 8 by omega];exact jy _
    ·have Er:ap R (j- 8)=0:=dD (by omega);simp only[fq,ax,Gz,Er,show d≤j- 8 by omega,show d≤j by omega,show 8≤j- d by omega,jU,oy,eS,show j- 8- d=j- d- 8 by omega]
  ·simp only[fq,show ¬d≤j by omega,oy,ite_self,eS]
 rw[key];exact UE gn dU.cI (mo b9 ab cE).cI (mo b9 ab eg).cI
end
end Go.Proofs.YtcgjepodnfjggaaGreatDoor
end
section
namespace Go.a6
open Go
theorem aqw{P:a8}{w:ao}{T E by_:Nat}{z:aV}[h:dN P T E 1 by_ z](aL:pn z=true){k cb:cg}{n:Int}(aB:0≤n)(ad:(by_:Int)*n≤281474976710656)(aQ:n≤9223372036854775807):
  (Instr.makeSlice T (.int k 0) (.int cb n)).run P w=.ok (.slice (some ⟨w.heap.size,0,none⟩) 0 n.toNat) (w.alloc (.cells (List.replicate n.toNat z).toArray E)):=by
 obtain⟨i,hi,aq,nB,vS⟩:=h.rq;have:=run_make (P:=P) w T E i z h.under hi vS k cb 0 n (MJ _) aB (by rw[nB];exact ad) aQ;rw[this,OW aL,aq,dJ];congr 3;rw[←toList_madeCells_one]
section
variable{F:Nat→Prop}{w₀ w:ao}{L:List bi}
theorem au.FK{q g E sz m c:Nat}{cs:cJ}(hi:L[q]?=some (aE g E cs))(ag:cs.size=c*sz)(sh:m≤c)(hm:c≤maxLen)(h:au F w₀ L w):au F w₀ (L.set q (own E sz (some ⟨g,0,none⟩) m c (cs.toList.take (m*sz)))) w:=
 h.swap hi (fun _ D ⟨aa,ab⟩ _=>⟨D,⟨⟨by rw[fW,Hr,ag];exact kx (xo _ sh),.inr ⟨g,c,cs,I,dg _,ab,sh,hm,ag,I⟩⟩,fun k=>by rw[aa];simp[ob]⟩,fun _ h=>h⟩)
theorem au.tail{A:bi}(h:au F w₀ (A::L) w):au F w₀ L w:=⟨h.b6,h.lt,h.sep.tail⟩
theorem au.Vp:∀(X:List bi),au F w₀ (X++L) w→au F w₀ L w
 |[],h=>h
 |_::X,h=>au.Vp X h.tail
end
section
variable{P:a8}{ops:Array Oper}{S:ao→Prop}{K:Act→ao→Prop}{p:eR}{n:Nat}{l:List (Nat×aV)}{i:Nat}{ty dr:aO}{x y:bf}{F:Nat→Prop}{w₀:ao}{L:List bi}
theorem am9{d:Nat}(q:Nat){E by_:Nat}{zv:aV}{k cb:cg}{m:Int}(av:cG ops n l i=some (some d,.makeSlice dr x y,ty))[dN P dr E 1 by_ zv](af:bk l x=some (.int k 0))(aF:bk l y=some (.int cb m))
  (aM:m=(q:Nat)) (aL:pn zv=true) (hm:by_*q≤281474976710656∧q≤maxLen) (be:∀w,au F w₀ L w→S w)
  (h:∀g,U P ops S K p n ((d,.slice (some ⟨g,0,none⟩) 0 q)::l) (au F w₀ (own E 1 (some ⟨g,0,none⟩) 0 q []::L))):U P ops S K (.bB false i p) n l (au F w₀ L):=
 yr (v:=fun g=>.slice (some ⟨g,0,none⟩) 0 q) (T:=E) (cs:=(List.replicate q zv).toArray) av (fun a w o he aa _=>by
  subst aM;have ad:(by_:Int)*(q:Nat)≤281474976710656:=by rw[←zA];omega
  have:=aqw (P:=P) (w:=w) (T:=dr) (k:=k) (cb:=cb) aL (n:=(q:Nat)) (by omega) ad (by have:=hm.2;unfold maxLen at this;omega);rw[jK] at this;simp only[execOp,aa,he.bk af,he.bk aF,Sem.run_bind,this,Result.andThen_ok,Sem.run_pure]) be (fun g=>U.pre (fun _ hw=>by
   have:=hw.FK (q:=0) (m:=0) (c:=q) (sz:=1) rfl (by simp) (dg _) hm.2;simpa using this) (h g))
end
structure XO where
 A:aN
 n:Nat
 c:Nat
 xs:cw
def XO.vB(q:XO):aV:=.slice q.A q.n q.c
section
variable{P:a8}{n:Nat}{c:Code}
theorem pP{f:dn}{fn:Func}{args:cw}{w:ao}{R:Ending→ao→Prop}{C:ao→Prop}(aI:P.funcs[f]?=some fn)(ad:fn.body=some c)(aQ:fn.ntmps=n)(hlen:Nat.ble args.length n=true)(hw:C w)
  (h:J P (xP fn R P) [] c n (u6 0 args) C):Calls P f args.toArray w R:=
 Kp aI ad aQ hlen ⟨fun a v he br=>h.run a v he (by subst br;exact hw)⟩
end
section
variable{P:a8}{ops:Array Oper}{S:ao→Prop}{K:Act→ao→Prop}{p:eR}{n:Nat}{l:List (Nat×aV)}{i:Nat}{ty:aO}{x:bf}{F:Nat→Prop}{w₀:ao}{A:List bi}
theorem aaB{d:Nat}{dz:Array bf}{eD:Array aO}{g:dn}{cZ cs:cJ}{vs L:cw}{X:Type}{v:X→aV}{pf:X→Prop}{dv:X→List bi}
  (av:cG ops n l i=some (some d,.call ⟨.value x,dz,eD⟩,ty)) (af:bk l x=some (.func (.func g) cZ cs)) (has:iY l dz.toList=some vs) (cF:cZ.toList++vs++cs.toList=L) [bg:aU P g]
  (ag:∀w,au F w₀ A w→Calls P g L.toArray w (fun e ar=>∃x,e=.returned (v x)∧pf x∧au F w₀ (dv x) ar)) (be:∀x w,au F w₀ (dv x) w→S w) (h:∀x,pf x→U P ops S K p n ((d,(v x))::l) (au F w₀ (dv x))):U P ops S K (.bB false i p) n l (au F w₀ A):=
 U.enter (ec:=fun x w=>au F w₀ (dv x) w) av (fun _ _ _ he aa _=>Fs he aa af has cF) ag be h
end
end Go.a6
end
