/- Joined texts: the walk by computed conditions, the contracts of the functions, the plain laws. -/
import Derived.Test.YtfegegkkdfkllaaGreatDoorW1
import Derived.Test.YtfegegkkdfkllaaGreatDoorW2
import Derived.Test.YtfegegkkdfkllaaGreatDoorW3
set_option linter.unusedVariables false
set_option linter.unusedSimpArgs false
set_option maxRecDepth 100000
set_option maxHeartbeats 0
noncomputable section
open Array renaming toList->Gx
open Bool renaming and_eq_false_iff->FH,and_eq_true->HC,eq_iff_iff->Ge,not_eq_true->C6,or_eq_false_iff->E3,or_eq_true->F9
open ByteArray renaming data->Gy,mk->Gu
open Decidable renaming em->BH
open Go renaming Code->He,LoopState->HJ
open Go.Code renaming exit->DV,ret->FJ
open Go.Fo.Bd renaming d->ID
open Go.Fo.Ev renaming d->HO,name->Bp
open Go.Fo.Fm renaming bs->HN,d->HV,induct->Ex,kind->Hj,l->Hz,mk->E1,n->HB,name->HE,ts->HM,ty_eq->A1,tys->Eu,wt_lt->CO,wts->Eg
open Go.Fo.Gr renaming d->Hx
open Go.Fo.Le renaming d->H7,groups->BB,who->Ay
open Go.Fo.Maps renaming ea->zzW
open Go.Fo.Pe renaming away->Dx,d->Hy
open Go.Fo.Pl renaming d->H6
open Go.Fo.Rm renaming d->H8,shut->A9
open Go.Fo.Ru renaming d->Hm
open Go.Fo.Sc renaming groups->Hh,lessons->Hn,people->Hi,rooms->Hg,slots->Hk
open Go.Fo.Sl renaming d->H9
open Go.Fo.Tm renaming d->Hq,kind->Gh,n->FO,name->GK
open Go.IntKind renaming i64->Ho,wrap->Hr
open Go.Lib renaming decDigits->BN
open Go.LoopState renaming busy->Do,ready->GY
open Go.RowKit.Below renaming refl->zug
open Go.Sx renaming PCall->HY,PFn->IK,PMaker->C0,PYield->Gi,rowAt->Ew
open Go.Sx.AV renaming any->IM,clo->Gg,d->IH,iptr->GO,msl->F1,nilf->zzX,ptr->IA,yld->G2
open Go.Sx.Box renaming cells->Hl,loop->Gz
open Go.Sx.D renaming agg->Hd,bool->IL,cells->Gq,int->IP,sl->II,str->HW,toInt->Hf,toSl->Gl,toStr->Gc
open Go.Sx.PFn renaming use->DB
open Go.Sx.PFnA renaming walk->Bv
open Go.Sx.PYield renaming walk->DW
open Go.Sx.Sh renaming bool->EL,int->HX,norm->GP,ok->Ft,sl->HK,str->HI
open Go.Value renaming int->zvM
open Int renaming add_zero->AM,le_of_lt->zwS,le_refl->DG,lt_or_eq_of_le->Ce,mul_comm->zyO,mul_le_mul->zws,mul_le_mul_of_nonneg_left->Av,mul_le_mul_of_nonneg_right->zzK,mul_nonneg->DK,mul_zero->zyR,toNat->IJ,toNat_natCast->HF,toNat_zero->zyf,zero_add->B7
open List renaming all->F0,all_append->Fb,all_eq_false->D3,all_eq_true->G3,any_cons->E5,append->D9,append_assoc->DN,append_nil->D5,countP->zyD,countP_append->Ba,countP_cons->B1,countP_le_length->C3,countP_nil->Ac,drop->GM,drop_eq_nil_of_le->Fx,drop_length->zys,eq_nil_of_length_eq_zero->Df,eq_of_mem_replicate->Bg,ext_getElem?->DO,find?_append->zxE,find?_cons->EQ,flatMap_cons->CA,foldl_cons->CY,getElem?_append_left->Ez,getElem?_append_right->EG,getElem?_eq_getElem->Ff,getElem?_eq_none->Gt,getElem?_eq_none_iff->As,getElem?_map->G5,getElem?_modify->zzC,getElem?_replicate->Ar,getElem?_set->E4,length->IR,length_append->FG,length_cons->F2,length_map->H4,length_replicate->Aq,length_take->FS,lookup->Bz,map->IT,map_append->GI,map_cons->Gb,map_map->CT,map_replicate->Cg,map_set->zyM,mem_append->FK,mem_cons->F5,mem_cons_of_mem->zxS,mem_cons_self->Ak,mem_flatMap->zyt,mem_iff_getElem->EF,mem_map->Gd,mem_of_getElem?->GS,mem_of_mem_take->De,range->Gp,replicate->G8,replicate_succ->Am,reverse->G6,take->HZ,take_add_one->GN,take_length->FR,take_of_length_le->Gs,take_succ_cons->FM,take_zero->Em,zip_cons_cons->zy1
open Nat renaming add_div_right->zxD,add_mul->FC,add_sub_cancel->CC,div_add_mod->BQ,div_eq_of_lt->BS,eq_zero_or_pos->C4,le->CJ,le_refl->GE,le_trans->EN,lt_or_ge->G4,mod_eq_of_lt->Ai,mod_lt->By,mul_add->zyC,mul_add_div->zyj,mul_add_mod->zyi,mul_assoc->zya,mul_comm->Cy,mul_div_cancel->zxJ,mul_mod_right->zxC,mul_one->B8,mul_pos->zz0,zero_le->GD,zero_mul->AT
open Option renaming getD->IB,isSome->B5,rec->zzv
open Prod renaming fst->Hw,snd->HL
open _root_ renaming List->IU,Option->IQ,True->IN,absurd->Hu,decide_eq_false_iff_not->HH,decide_eq_true_eq->HS,if_neg->IE,if_pos->Hv,of_decide_eq_true->G0
namespace Go.Fo
open Go Go.Sx Go.Proofs
section
def zF (c x:Int):Int:=if c<x then c else x
def zU (s:Sc) (k:Int):Int:=(zf s k).length
def zR (c:Int) (s:Sc) (bs:IU Bd):Int:=bs.foldl (λn b=>zF c (n*zU s b.sort)) 1
mutual
def Fm.broad (c:Int) (s:Sc):Fm->Int
 |.mk k _ _ _ bs l=>zF c ((if k>=14 then zF c (Fm.broads c s l 0*zR c s bs)else Fm.broads c s l 0)+1)
def Fm.broads (c:Int) (s:Sc):IU Fm->Int->Int
 |[],n=>n
 |x::r,n=>Fm.broads c s r (zF c (n+Fm.broad c s x))
end
theorem Fm.broad_eq (c:Int) (s:Sc) (f:Fm):f.broad c s=zF c ((if f.kind>=14 then zF c (Fm.broads c s f.l 0*zR c s f.bs)else Fm.broads c s f.l 0)+1):=by cases f;rw[Fm.broad];rfl
def xF (s:Sc):IU Ru->Int->Int->Bool
 |[],n,b=>decide (n>4096)||decide (b>1048576)
 |r::q,n,b=>if zR 2097152 s r.each>4096 then true else xF s q (zF 2097152 (n+zR 2097152 s r.each)) (zF 2097152 (b+zR 2097152 s r.each*r.body.broad 2097152 s))
theorem yx {c x:Int}(hc:0<=c) (hx:0<=x):0<=zF c x/\zF c x<=c:=by unfold zF;split<;>omega
theorem cp {s:Sc}(hs:s.Fits) (k:Int):(zf s k).length<1099511627776:=by
 have h1:=hs.slots;have h2:=hs.rooms;have h3:=hs.people;have h4:=hs.groups;have h5:=hs.lessons;unfold zf;split
 ·simpa using h5
 split
 ·simpa using h1
 split
 ·simpa using h2
 split
 ·simpa using h3
 split
 ·simpa using h4
 split
 ·decide
 split
 ·decide
 ·decide
theorem rr {s:Sc}(hs:s.Fits) (k:Int):0<=zU s k/\zU s k<1099511627776:=by have:=cp hs k;unfold zU;omega
theorem rq {a b:Int}(h0:0<=a) (h1:a<=2097152) (h2:0<=b) (h3:b<1099511627776):Ho.wrap (a*b)=a*b/\0<=a*b:=by have h4:=zws h1 (zwS h3) h2 (by decide);have h5:=DK h0 h2;exact⟨zx (by omega) (by omega),h5⟩
theorem yW {s:Sc}(hs:s.Fits) {c:Int}(hc:1<=c):∀bs:IU Bd,0<=zR c s bs/\zR c s bs<=c:=by
 have key:∀(bs:IU Bd) (n:Int),0<=n->n<=c->0<=bs.foldl (λn b=>zF c (n*zU s b.sort)) n/\bs.foldl (λn b=>zF c (n*zU s b.sort)) n<=c:=by
  intro bs;induction bs with
  |nil=>intro n h0 h1;exact⟨h0,h1⟩
  |cons b r ih =>
   intro n h0 h1;have h2:=yx (c:=c) (x:=n*zU s b.sort) (by omega) (DK h0 (rr hs b.sort).1);exact ih _ h2.1 h2.2
 intro bs;exact key bs 1 (by decide) hc
section
variable {G:Nat->IQ (IU D)}
def co (a:Sc):Prop:=(IT H9 (Hk a)=IT H9 (Hk a)/\IT H8 (Hg a)=IT H8 (Hg a)/\IT Hy (Hi a)=IT Hy (Hi a)/\IT Hx (Hh a)=IT Hx (Hh a)/\IT H7 (Hn a)=IT H7 (Hn a)/\IN)/\IN
def TE (a:Nat) (b:IU Bd):Bool:=decide ((a:Int)<(↑(IR (IT ID b)):Int))
theorem h43 (s:Sc) (bs:IU Bd) (hs:s.Fits) (hb:bs.length<4611686018427387904):IK Tryz.prog G 43 [s.d,.sl (bs.map ID)] (· = [.int .i64 (zR 2097152 s bs)]):=by
 have h81:=λk=>h81 (G:=G) s k hs;rw[zj]at *;refine zu (LL [(3,ze (α:=Nat) Tryz.prog G L0 0 (z8 (z6 Tryz.f43) 0) [1,2] (λx=>x<=bs.length) (λx=>bs.length - x) (λx=>[(5,.d (.int .i64 (zR 2097152 s (bs.take x)))),(6,.d (.int .i64 x))]) (λH _=>H))]) Tryz.func43 ⟨_,rfl⟩ (zt zz) ?_;apply @z7 _ (∃(x0:Nat),x0<=IR bs/\((IT ID bs=IT ID bs/\IA 0 0=IA 0 0/\1=zR 2097152 s (HZ x0 bs)/\(0:Int)=(x0:Int)/\IN)/\co s)/\∀(x:Nat),x<=IR bs->(TE x bs=true->((0:Int)<=(x:Int)/\(IT ID bs)[IJ (x:Int)]? = some (zr [HI,HX .i64] (IT ID bs) (IJ (x:Int))))/\IK Tryz.prog G 81 [Hd [.sl (IT H9 (Hk s)),.sl (IT H8 (Hg s)),.sl (IT Hy (Hi s)),.sl (IT Hx (Hh s)),.sl (IT H7 (Hn s))],.int .i64 (Hf (IB (z1 (IT ID bs) (IJ (x:Int)) (0+1)) default))] λ(rs:IU D)=>∃(n:Int),rs=[IP .i64 n]/\∃(y:Nat),y<=IR bs/\IR bs - y<IR bs - x/\(IT ID bs=IT ID bs/\IA 0 0=IA 0 0/\(if 2097152<Hr .i64 (zR 2097152 s (HZ x bs)*n)then 2097152 else Hr .i64 (zR 2097152 s (HZ x bs)*n))=zR 2097152 s (HZ y bs)/\Hr .i64 ((x:Int)+1)=(y:Int)/\IN)/\co s)/\(TE x bs=false->[IP .i64 (zR 2097152 s (HZ x bs))]=[IP .i64 (zR 2097152 s bs)]))
 ·kernel_rfl
 delta co TE;refine⟨0,by omega,⟨⟨rfl,rfl,rfl,rfl,trivial⟩,⟨rfl,rfl,rfl,rfl,rfl,trivial⟩,trivial⟩,λx hx=>⟨λhlt=>?_,λhge=>?_⟩⟩
 ·simp only[H4,HS]at hlt;obtain⟨z,hz,hm⟩:=zw (l:=bs) (x:=x) (by omega);have ei (n:Int):Hf (IB (some (IP .i64 n)) default)=n:=rfl;rw[HF,w6 hz,wr hz,ei];refine⟨⟨by omega,by rw[G5,hz];rfl⟩,(h81 z.sort).use ⟨_,rfl,x+1,by omega,by omega,⟨rfl,rfl,?_,by rw[zx (by omega) (by omega)];rfl,trivial⟩,⟨rfl,rfl,rfl,rfl,rfl,trivial⟩,trivial⟩⟩;have hb1:=yW hs (c:=2097152) (by decide) (bs.take x);have hc:=rr hs z.sort;have hw:=rq hb1.1 hb1.2 hc.1 hc.2;have hstep:zR 2097152 s (bs.take (x+1))=zF 2097152 (zR 2097152 s (bs.take x)*zU s z.sort):=tW _ _ hz;rw[hstep,←hw.1];rfl
 ·simp only[H4,HH]at hge;rw[Gs (by omega)]
theorem xD {s:Sc}(hs:s.Fits) {c:Int}(hc:1<=c) (f:Fm):0<=f.broad c s/\f.broad c s<=c:=by
 have key:∀(l:IU Fm),(∀x∈l,0<=x.broad c s/\x.broad c s<=c)->∀n,0<=n->n<=c->0<=Fm.broads c s l n/\Fm.broads c s l n<=c:=by
  intro l;induction l with
  |nil=>intro _ n h0 h1;rw[Fm.broads];exact⟨h0,h1⟩
  |cons x r ih =>
   intro hl n h0 h1;rw[Fm.broads];have h2:=hl x (by simp);have h3:=yx (c:=c) (x:=n+x.broad c s) (by omega) (by omega);exact ih (λy hy=>hl y (by simp[hy])) _ h3.1 h3.2
 induction f using Ex with
 |h f ih =>
  rw[Fm.broad_eq];have h1:=key f.l (λx hx=>ih x hx) 0 (by decide) (by omega);have h2:=yW hs hc f.bs;refine yx (by omega) ?_;split
  ·have:=yx (c:=c) (x:=Fm.broads c s f.l 0*zR c s f.bs) (by omega) (DK h1.1 h2.1);omega
  ·omega
theorem cn {s:Sc}(hs:s.Fits) {c:Int}(hc:1<=c):∀(l:IU Fm) n,0<=n->n<=c->0<=Fm.broads c s l n/\Fm.broads c s l n<=c:=by
 intro l;induction l with
 |nil=>intro n h0 h1;rw[Fm.broads];exact⟨h0,h1⟩
 |cons x r ih =>
  intro n h0 h1;rw[Fm.broads];have h2:=xD hs hc x;have h3:=yx (c:=c) (x:=n+x.broad c s) (by omega) (by omega);exact ih _ h3.1 h3.2
def Xk (a:Nat×Int) (b:Fm) (c:Sc):Prop:=Hw a<=IR (Hz b)/\Fm.broads 2097152 c (GM (Hw a) (Hz b)) (HL a)=Fm.broads 2097152 c (Hz b) 0/\0<=HL a/\HL a<=2097152
def TD (a:Sc) (b:Fm):Prop:=(IT H9 (Hk a)=IT H9 (Hk a)/\IT H8 (Hg a)=IT H8 (Hg a)/\IT Hy (Hi a)=IT Hy (Hi a)/\IT Hx (Hh a)=IT Hx (Hh a)/\IT H7 (Hn a)=IT H7 (Hn a)/\IN)/\(Hj b=Hj b/\HE b=HE b/\HB b=HB b/\IT Hq (HM b)=IT Hq (HM b)/\IT ID (HN b)=IT ID (HN b)/\IT HV (Hz b)=IT HV (Hz b)/\IN)/\IN
def TC (a:Nat×Int) (b:Fm):Bool:=decide ((↑(Hw a):Int)<(↑(IR (IT HV (Hz b))):Int))
def TB (a:Fm) (b:Nat×Int):D:=zr [HX .i64,HI,HX .i64,HK,HK,HK] (IT HV (Hz a)) (IJ (↑(Hw b):Int))
def cm (a:Sc):D:=Hd [.sl (IT H9 (Hk a)),.sl (IT H8 (Hg a)),.sl (IT Hy (Hi a)),.sl (IT Hx (Hh a)),.sl (IT H7 (Hn a))]
def TA (a:Nat×Int) (b:Int):Int:=Hr .i64 ((if 2097152<Hr .i64 (HL a*b)then 2097152 else Hr .i64 (HL a*b))+1)
theorem h44 (s:Sc) (f:Fm) (hs:s.Fits) (hf:f.wt<1099511627776):IK Tryz.prog G 44 [s.d,f.d] (· = [.int .i64 (f.broad 2097152 s)]):=by
 induction f using Ex with
 |h f ih =>
 have hwt:=f.wt_eq;have hwl:=rG f.l;have h43:=h43 (G:=G) s f.bs hs (by omega);rw[zj]at *;rw[yf f];refine zu (LL [(3,ze (α:=Nat×Int) Tryz.prog G L0 0 (z8 (z6 Tryz.f44) 0) [2,3] (λx=>x.1<=f.l.length/\Fm.broads 2097152 s (f.l.drop x.1) x.2=Fm.broads 2097152 s f.l 0/\0<=x.2/\x.2<=2097152) (λx=>f.l.length - x.1) (λx=>[(5,.d (.int .i64 x.2)),(6,.d (.int .i64 x.1))]) (λH _=>H))]) Tryz.func44 ⟨_,rfl⟩ (zt zz) ?_;apply @z7 _ (∃(x0:Nat×Int),Xk x0 f s/\((IA 0 0=IA 0 0/\IA 1 0=IA 1 0/\0=HL x0/\(0:Int)=(↑(Hw x0):Int)/\IN)/\TD s f)/\∀(x:Nat×Int),Xk x f s->(TC x f=true->((0:Int)<=(↑(Hw x):Int)/\(IT HV (Hz f))[IJ (↑(Hw x):Int)]? = some (TB f x))/\IK Tryz.prog G 44 [cm s,TB f x] λ(rs:IU D)=>∃(n:Int),rs=[IP .i64 n]/\∃(y:Nat×Int),Xk y f s/\IR (Hz f) - Hw y<IR (Hz f) - Hw x/\(IA 0 0=IA 0 0/\IA 1 0=IA 1 0/\(if 2097152<Hr .i64 (HL x+n)then 2097152 else Hr .i64 (HL x+n))=HL y/\Hr .i64 ((↑(Hw x):Int)+1)=(↑(Hw y):Int)/\IN)/\TD s f)/\(TC x f=false->(decide (Hj f>=14)=true->IK Tryz.prog G 43 [cm s,.sl (IT ID (HN f))] λ(rs:IU D)=>∃(n:Int),rs=[IP .i64 n]/\[IP .i64 (if 2097152<TA x n then 2097152 else TA x n)]=[IP .i64 (Fm.broad 2097152 s f)])/\(decide (Hj f>=14)=false->[IP .i64 (if 2097152<Hr .i64 (HL x+1)then 2097152 else Hr .i64 (HL x+1))]=[IP .i64 (Fm.broad 2097152 s f)])))
 ·kernel_rfl
 delta Xk TD TC TB cm TA;refine⟨(0,0),⟨GD _,rfl,by decide,by decide⟩,⟨⟨rfl,rfl,rfl,rfl,trivial⟩,⟨rfl,rfl,rfl,rfl,rfl,trivial⟩,⟨rfl,rfl,rfl,rfl,rfl,rfl,trivial⟩,trivial⟩,λx hx=>⟨λhlt=>?_,λhge=>?_⟩⟩
 ·simp only[H4,HS]at hlt;obtain⟨z,hz,hm⟩:=zw (l:=f.l) (x:=x.1) (by omega);have hzw:=CO hm;obtain⟨i1,i2,i3,i4⟩:=hx;rw[HF,wZ hz];have hb:=xD hs (c:=2097152) (by decide) z;have hcap:=yx (c:=2097152) (x:=x.2+z.broad 2097152 s) (by decide) (by omega);refine⟨⟨by omega,by rw[G5,hz];rfl⟩,(ih z hm (by omega)).use ⟨_,rfl,(x.1+1,zF 2097152 (x.2+z.broad 2097152 s)),⟨by show x.1+1<=_;omega,?_,hcap.1,hcap.2⟩,by show _ - (x.1+1)<_;omega,⟨rfl,rfl,?_,by rw[zx (by omega) (by omega)];rfl,trivial⟩,⟨rfl,rfl,rfl,rfl,rfl,trivial⟩,⟨rfl,rfl,rfl,rfl,rfl,rfl,trivial⟩,trivial⟩⟩
  ·rw[←i2,ye hz,Fm.broads]
  ·rw[zx (by omega) (by omega)];rfl
 ·simp only[H4,HH]at hge;obtain⟨i1,i2,i3,i4⟩:=hx;rw[Fx (by omega),Fm.broads]at i2;have hmb:=yW hs (c:=2097152) (by decide) f.bs;refine⟨λhk=>h43.use ⟨_,rfl,?_⟩,λhk=>?_⟩
  ·have hwm:=rq i3 i4 hmb.1 (by omega);have hcap:=yx (c:=2097152) (x:=x.2*zR 2097152 s f.bs) (by decide) hwm.2;have e1:(if 2097152<x.2*zR 2097152 s f.bs then 2097152 else x.2*zR 2097152 s f.bs)=zF 2097152 (x.2*zR 2097152 s f.bs):=rfl;rw[hwm.1,e1,zx (by omega) (by omega),Fm.broad_eq,Hv (G0 hk),←i2];rfl
  ·rw[zx (by omega) (by omega),Fm.broad_eq,IE (of_decide_eq_false hk),←i2];rfl
def S0 (a:Nat×Int×Int) (b:IU Ru) (c:Sc):Prop:=Hw a<=IR b/\xF c (GM (Hw a) b) (Hw (HL a)) (HL (HL a))=xF c b 0 0/\0<=Hw (HL a)/\Hw (HL a)<=2097152/\0<=HL (HL a)/\HL (HL a)<=2097152
def PV (a:Nat×Int×Int) (b:IU Ru):Bool:=decide ((↑(Hw a):Int)<(↑(IR (IT Hm b)):Int))
def nk (a:Nat×Int×Int):Nat:=IJ (↑(Hw a):Int)
def PU (a:Nat×Int×Int) (b:IU Ru):Prop:=(0:Int)<=(↑(Hw a):Int)/\(IT Hm b)[nk a]? = some (zr [HI,EL,HX .i64,HK,HX .i64,HI,HX .i64,HK,HK,HK] (IT Hm b) (nk a))
def PT (a:Nat×Int×Int) (b:Int) (c:Int):Int:=Hr .i64 (HL (HL a)+Hr .i64 (b*c))
theorem h46 (s:Sc) (l:IU Ru) (hs:s.Fits) (hl:l.length<1099511627776) (hw:rwts l<1099511627776):IK Tryz.prog G 46 [s.d,.sl (l.map Hm)] (· = [.bool (xF s l 0 0)]):=by
 have h43:=λbs h=>h43 (G:=G) s bs hs h;have h44:=λf h=>h44 (G:=G) s f hs h;rw[zj]at *;refine zu (LL [(4,ze (α:=Nat×Int×Int) Tryz.prog G L0 0 (z8 (z6 Tryz.f46) 0) [1,2] (λx=>x.1<=l.length/\xF s (l.drop x.1) x.2.1 x.2.2=xF s l 0 0/\0<=x.2.1/\x.2.1<=2097152/\0<=x.2.2/\x.2.2<=2097152) (λx=>l.length - x.1) (λx=>[(5,.d (.int .i64 x.2.1)),(6,.d (.int .i64 x.2.2)),(7,.d (.int .i64 x.1))]) (λH _=>H))]) Tryz.func46 ⟨_,rfl⟩ (zt zz) ?_;apply @z7 _ (∃(x0:Nat×Int×Int),S0 x0 l s/\((IT Hm l=IT Hm l/\IA 0 0=IA 0 0/\0=Hw (HL x0)/\0=HL (HL x0)/\(0:Int)=(↑(Hw x0):Int)/\IN)/\co s)/\∀(x:Nat×Int×Int),S0 x l s->(PV x l=true->PU x l/\IK Tryz.prog G 43 [cm s,.sl (Gl (IB (z1 (IT Hm l) (nk x) (0+1+1+1)) default))] λ(rs:IU D)=>∃(n:Int),rs=[IP .i64 n]/\(decide (n>4096)=true->[IL true]=[IL (xF s l 0 0)])/\(decide (n>4096)=false->PU x l/\IK Tryz.prog G 44 [cm s,.agg [.int .i64 (Hf (IB (z1 (IT Hm l) (nk x) (0+1+1+1+1)) default)),.str (Gc (IB (z1 (IT Hm l) (nk x) (0+1+1+1+1+1)) default)),.int .i64 (Hf (IB (z1 (IT Hm l) (nk x) (0+1+1+1 + 1+1+1)) default)),.sl (Gl (IB (z1 (IT Hm l) (nk x) (0+1+1+1+1+1+1+1)) default)),.sl (Gl (IB (z1 (IT Hm l) (nk x) (0+1+1+1+1+1+1+1+1)) default)),.sl (Gl (IB (z1 (IT Hm l) (nk x) (0+1+1+1+1+1+1+1+1+1)) default))]] λ(rs:IU D)=>∃(n_1:Int),rs=[IP .i64 n_1]/\∃(y:Nat×Int×Int),S0 y l s/\IR l - Hw y<IR l - Hw x/\(IT Hm l=IT Hm l/\IA 0 0=IA 0 0/\(if 2097152<Hr .i64 (Hw (HL x)+n)then 2097152 else Hr .i64 (Hw (HL x)+n))=Hw (HL y)/\(if 2097152<PT x n n_1 then 2097152 else PT x n n_1)=HL (HL y)/\Hr .i64 ((↑(Hw x):Int)+1)=(↑(Hw y):Int)/\IN)/\co s))/\(PV x l=false->[IL (bif decide (Hw (HL x)>4096)then true else decide (HL (HL x)>1048576))]=[IL (xF s l 0 0)]))
 ·kernel_rfl
 delta S0 co TE PV PU nk cm Xk TD TC TB TA PT;refine⟨(0,0,0),⟨GD _,rfl,by decide,by decide,by decide,by decide⟩,⟨⟨rfl,rfl,rfl,rfl,rfl,trivial⟩,⟨rfl,rfl,rfl,rfl,rfl,trivial⟩,trivial⟩,λx hx=>⟨λhlt=>?_,λhge=>?_⟩⟩
 ·simp only[H4,HS]at hlt;obtain⟨z,hz,hm⟩:=zw (l:=l) (x:=x.1) (by omega);obtain⟨i1,i2,i3,i4,i5,i6⟩:=hx;have hzw:=rwts_mem hm;have hzw2:z.wt=z.name.length+nq z.each+z.body.wt:=rfl;have hew:z.each.length<=nq z.each:=by unfold nq;omega
  have ei (n:Int):Hf (IB (some (IP .i64 n)) default)=n:=rfl;have es (n:Nm):Gc (IB (some (HW n)) default)=n:=rfl;have el (l:IU D):Gl (IB (some (II l)) default)=l:=rfl;rw[HF,sX hz,sC hz,sB hz,sA hz,r6 hz,r7 hz,r8 hz,r9 hz,ei,ei,es,el,el,el,el];have hg:0<=(x.1:Int)/\(IT Hm l)[x.1]? = some z.d:=⟨by omega,by rw[G5,hz];rfl⟩;have hmb:=yW hs (c:=2097152) (by decide) z.each;have hbb:=xD hs (c:=2097152) (by decide) z.body;have h44z:=h44 z.body (by omega);rw[yf z.body]at h44z;have hwm:=rq hmb.1 hmb.2 hbb.1 (by omega);have i2':=i2;rw[ye hz,xF]at i2';refine⟨hg,(h43 z.each (by omega)).use ⟨_,rfl,λhk=>?_,λhk=>⟨hg,h44z.use ⟨_,rfl,(x.1+1,zF 2097152 (x.2.1+zR 2097152 s z.each),zF 2097152 (x.2.2+zR 2097152 s z.each*z.body.broad 2097152 s)),⟨by show x.1+1<=_;omega,?_,(yx (by decide) (by omega)).1,(yx (by decide) (by omega)).2,(yx (by decide) (by omega)).1,(yx (by decide) (by omega)).2⟩,by show _ - (x.1+1)<_;omega,⟨rfl,rfl,?_,?_,by rw[zx (by omega) (by omega)];rfl,trivial⟩,⟨rfl,rfl,rfl,rfl,rfl,trivial⟩,trivial⟩⟩⟩⟩
  ·rw[Hv (G0 hk)]at i2';rw[←i2']
  ·rw[IE (of_decide_eq_false hk)]at i2';exact i2'
  ·rw[zx (by omega) (by omega)];rfl
  ·have hup:=zws hmb.2 hbb.2 hbb.1 (by decide);rw[hwm.1,zx (by omega) (by omega)];rfl
 ·simp only[H4,HH]at hge;obtain⟨i1,i2,i3⟩:=hx;rw[Fx (by omega),xF]at i2;rw[←i2,zH]
end
end
open Go.Fo.Fm renaming broad_eq->Cw,broads->Fw
def pl (c:Nat) (t:IU Int):IU (IU Int):=(Gp c).map λ(n:Nat)=>t++[(n:Int)]
def zg (s:Sc) (bs:IU Bd):IU (IU Int):=bs.foldl (λout b=>out.flatMap (pl (zf s b.sort).length)) [[]]
def wz (t:IU Int):D:= .sl (t.map intD)
def yo (bs:IU Bd) (t:IU Int):IU Ev:=(bs.zip t).map λp=>⟨p.1.name,p.1.sort,p.2⟩
def wd (env:IU Ev) (nm:Nm):Ev:=(env.find? λy=>y.name==nm).getD ⟨[],0,0⟩
def Rl (a:Int) (sg:Nm) (b:Int):Bool :=if sg=[61]then a==b else if sg=[33,61]then a != b else if sg=[60]then decide (a<b)else if sg=[60,61]then decide (a<=b)else if sg=[62]then decide (a>b)else decide (a>=b)
def pk (s:Sc) (i:Int):Sl:=(s.slots[i.toNat]?).getD ⟨[],0,0⟩
def kR (s:Sc) (i:Int):Rm:=(s.rooms[i.toNat]?).getD ⟨[],0,0,[]⟩
def tu (s:Sc) (x:Ev) (t:Tm):Int :=if t.kind=1 then t.n else if t.kind=3 then(pk s x.at_).day else if t.kind=4 then(pk s x.at_).hour else if t.kind=5 then(kR s x.at_).house else if t.kind=6 then(kR s x.at_).seats else if t.kind=7 then rz s x.at_ else if x.sort=2 then Ho.wrap (Ho.wrap (12*(pk s x.at_).day)+(pk s x.at_).hour)else x.at_
def Km (s:Sc) (i:Int):Prop:=0<=i/\i<s.slots.length
def J2 (s:Sc) (i:Int):Prop:=0<=i/\i<s.rooms.length
structure ValOk (s:Sc) (x:Ev) (t:Tm):Prop where
 sl:t.kind=3∨t.kind=4->Km s x.at_
 rm:t.kind=5∨t.kind=6->J2 s x.at_
 sv:t.kind≠1->t.kind≠3->t.kind≠4->t.kind≠5->t.kind≠6->t.kind≠7->x.sort=2->Km s x.at_
theorem lu (c:Nat) (t:IU Int):(pl c t).length=c:=by simp[pl]
theorem kQ (c:Int) (s:Sc) {bs:IU Bd}{x:Nat}{b:Bd}(h:bs[x]? = some b):zR c s (bs.take (x+1))=zF c (zR c s (bs.take x)*zU s b.sort):=tW _ _ h
theorem tT (s:Sc) {bs:IU Bd}{x:Nat}{b:Bd}(h:bs[x]? = some b):zg s (bs.take (x+1))=(zg s (bs.take x)).flatMap (pl (zf s b.sort).length):=tW _ _ h
theorem kP {s:Sc}(hs:s.Fits) {c:Int}(hc:1<=c) {bs:IU Bd}(h0:0<zR c s bs) (h1:zR c s bs<c):∀d x,x+d=bs.length->0<zR c s (bs.take x)/\zR c s (bs.take x)<=zR c s bs
 |0,x,h=>by rw[Gs (by omega)];exact⟨h0,DG _⟩
 |d+1,x,h=>by
  obtain⟨i1,i2⟩:=kP hs hc h0 h1 d (x+1) (by omega);obtain⟨b,hb,_⟩:=zw (l:=bs) (x:=x) (by omega);have hbd:=yW hs hc (bs.take x);have hcb:=rr hs b.sort;rw[kQ c s hb]at i1 i2;unfold zF at i1 i2;split at i2
  ·omega
  ·rename_i hlt;rw[IE hlt]at i1;have hm0:0<zR c s (bs.take x):=by
    rcases Ce hbd.1 with h|h
    ·exact h
    ·rw[←h,Int.zero_mul]at i1;omega
   have hc0:0<zU s b.sort:=by
    rcases Ce hcb.1 with h|h
    ·exact h
    ·rw[←h,zyR]at i1;omega
   have:=Av (show 1<=zU s b.sort by omega) (zwS hm0);omega
theorem vZ (c:Nat):∀l:IU (IU Int),(l.flatMap (pl c)).length=l.length*c
 |[]=>by simp
 |a::r=>by rw[CA,FG,vZ c r,lu,F2,FC];omega
theorem ls {s:Sc}(hs:s.Fits) {c:Int}(hc:1<=c) {bs:IU Bd}(h0:0<zR c s bs) (h1:zR c s bs<c):∀x,x<=bs.length->((zg s (bs.take x)).length:Int)=zR c s (bs.take x)
 |0,_=>rfl
 |x+1,h=>by
  have ih:=ls hs hc h0 h1 x (by omega);obtain⟨b,hb,_⟩:=zw (l:=bs) (x:=x) (by omega);obtain⟨i1,i2⟩:=kP hs hc h0 h1 (bs.length - (x+1)) (x+1) (by omega);rw[kQ c s hb]at i2 ⊢;rw[tT s hb,vZ,Int.natCast_mul,ih];unfold zF at i2 ⊢;split at i2
  ·omega
  ·rename_i hlt;rw[IE hlt];rfl
theorem o8 (s:Sc) (bs:IU Bd):∀x,x<=bs.length->∀t∈zg s (bs.take x),t.length=x
 |0,_,t,ht=>by simp[zg]at ht;subst ht;rfl
 |x+1,h,t,ht=>by obtain⟨b,hb,_⟩:=zw (l:=bs) (x:=x) (by omega);rw[tT s hb,zyt]at ht;obtain⟨u,hu,ht⟩:=ht;unfold pl at ht;obtain⟨n,_,rfl⟩:=Gd.1 ht;simp[o8 s bs x (by omega) u hu]
theorem pj {s:Sc}{bs:IU Bd}(h:zR 2097152 s bs=0):zg s bs=[]:=by
 have key:∀(bs:IU Bd) (n:Int) (out:IU (IU Int)),(n≠0∨out=[])->bs.foldl (λn b=>zF 2097152 (n*zU s b.sort)) n=0->bs.foldl (λout b=>out.flatMap (pl (zf s b.sort).length)) out=[]:=by
  intro bs;induction bs with
  |nil =>
   intro n out h1 h2;have h2:n=0:=h2;rcases h1 with h1|h1
   ·exact Hu h2 h1
   ·exact h1
  |cons b r ih =>
   intro n out h1 h2;rw[CY]at h2 ⊢;refine ih _ _ ?_ h2;rcases h1 with h1|h1
   ·by_cases hc:zU s b.sort=0
    ·right;have:(zf s b.sort).length=0:=by unfold zU at hc;omega
     rw[this];unfold pl;simp
    ·left;unfold zF;split
     ·decide
     ·intro h;rcases Int.mul_eq_zero.1 h with h|h
      ·exact h1 h
      ·exact hc h
   ·right;rw[h1];rfl
 exact key bs 1 [[]] (.inl (by decide)) h
def jE (s:Sc) (out:IU (IU Int)) (c k:Nat):IU (IU Int):=(out.take k).flatMap (pl c)
def kO (s:Sc) (out:IU (IU Int)) (c k n:Nat):IU (IU Int):=jE s out c k++(Gp n).map λ(m:Nat)=>(out[k]?).getD []++[(m:Int)]
def wl (s:Sc) (bs:IU Bd) (i:Nat):Nat:=((bs[i]?).map λb=>(zf s b.sort).length).getD 0
section
variable {G:Nat->IQ (IU D)}
def af (a:Nat) (b:IU Ev) (c:Nm):Prop:=a<=IR b/\IU.find? (λ(y:Ev)=>Bp y==c) (HZ a b)=none
def h179q6:IU UInt8:=Gx (Gy (Gu #[]))
def h179q7:Prop:=(h179q6=h179q6/\(0:Int)=0/\(0:Int)=0/\IN)/\IN
def Vw (a:Nat) (b:IU Ev):Bool:=decide ((a:Int)<(↑(IR (IT HO b)):Int))
def Vv (a:IU Ev) (b:Nat):D:=zr [HI,HX .i64,HX .i64] (IT HO a) (IJ (b:Int))
def Vu (a:Nat) (b:IU Ev):Prop:=(0:Int)<=(a:Int)/\(IT HO b)[IJ (a:Int)]? = some (Vv b a)
def Vt (a:IU Ev) (b:Nat) (c:Nm):Bool:=Gc (IB (z1 (IT HO a) (IJ (b:Int)) 0) default)==c
def Vs (a:IU Ev) (b:Nm):IU D:=[Hd [.str (Bp (wd a b)),.int .i64 (Ev.sort (wd a b)),.int .i64 (Ev.at_ (wd a b))]]
theorem h179 (env:IU Ev) (nm:Nm) (hl:env.length<4611686018427387904):IK Tryz.prog G 179 [.sl (env.map HO),.str nm] (· = [(wd env nm).d]):=by
 refine zu (LL [(2,ze (α:=Nat) Tryz.prog G L0 0 (z8 (z6 Tryz.f179) 0) [0,1,4] (λx=>x<=env.length/\(env.take x).find? (λy=>y.name==nm)=none) (λx=>env.length - x) (λx=>[(5,.d (.int .i64 x))]) (λH _=>H))]) Tryz.func179 ⟨_,rfl⟩ (zt zz) ?_;apply @z7 _ (∃(x0:Nat),af x0 env nm/\((IT HO env=IT HO env/\nm=nm/\IA 0 0=IA 0 0/\(0:Int)=(x0:Int)/\IN)/\h179q7)/\∀(x:Nat),af x env nm->(Vw x env=true->Vu x env/\(Vt env x nm=true->Vu x env/\[Vv env x]=Vs env nm)/\(Vt env x nm=false->∃(y:Nat),af y env nm/\IR env - y<IR env - x/\(IT HO env=IT HO env/\nm=nm/\IA 0 0=IA 0 0/\Hr .i64 ((x:Int)+1)=(y:Int)/\IN)/\h179q7))/\(Vw x env=false->[Hd [.str h179q6,.int .i64 0,.int .i64 0]]=Vs env nm))
 ·kernel_rfl
 delta af h179q7 h179q6 Vw Vu Vv Vt Vs;refine⟨0,⟨by omega,rfl⟩,⟨⟨rfl,rfl,rfl,rfl,trivial⟩,⟨rfl,rfl,rfl,trivial⟩,trivial⟩,λx hx=>⟨λhlt=>?_,λhge=>?_⟩⟩
 ·simp only[H4,HS]at hlt;obtain⟨z,hz,hm⟩:=zw (l:=env) (x:=x) (by omega);have es (n:Nm):Gc (IB (some (HW n)) default)=n:=rfl;have hg:0<=(x:Int)/\(IT HO env)[x]? = some z.d:=⟨by omega,nK hz⟩;rw[HF,nL hz,lz hz,es];have hsp:env=env.take x++z::env.drop (x+1):=by have:=ye hz;rw[←this,IU.take_append_drop]
  refine⟨hg,λh=>⟨hg,?_⟩,λh=>⟨x+1,⟨by omega,?_⟩,by omega,⟨rfl,rfl,rfl,by rw[zx (by omega) (by omega)];rfl,trivial⟩,⟨rfl,rfl,rfl,trivial⟩,trivial⟩⟩
  ·have hof:wd env nm=z:=by unfold wd;rw[hsp,zxE,hx.2,EQ,h];rfl
   rw[hof];rfl
  ·rw[GN,hz,zxE,hx.2];simp[h]
 ·simp only[H4,HH]at hge;have h2:=hx.2;rw[Gs (by omega)]at h2;have hof:wd env nm=⟨[],0,0⟩:=by unfold wd;rw[h2];rfl
  rw[hof]
def Vr (a:Nm):Bool:=a==Gx (Gy (Gu #[(61:UInt8)]))
def m5 (a:Int) (b:Nm) (c:Int):IU D:=[IL (Rl a b c)]
def Vq (a:Nm):Bool:=a==Gx (Gy (Gu #[(33:UInt8),(61:UInt8)]))
def Vp (a:Nm):Bool:=a==Gx (Gy (Gu #[(60:UInt8)]))
def Vo (a:Nm):Bool:=a==Gx (Gy (Gu #[(60:UInt8),(61:UInt8)]))
def Vn (a:Nm):Bool:=a==Gx (Gy (Gu #[(62:UInt8)]))
theorem J3 (a b:Int) (sg:Nm):IK Tryz.prog G 177 [.int .i64 a,.str sg,.int .i64 b] (· = [.bool (Rl a sg b)]):=by
 refine zq Tryz.func177 ⟨_,rfl⟩ ?_;apply @z7 _ ((Vr sg=true->[IL (a==b)]=m5 a sg b)/\(Vr sg=false->(Vq sg=true->[IL (a != b)]=m5 a sg b)/\(Vq sg=false->(Vp sg=true->[IL (decide (a<b))]=m5 a sg b)/\(Vp sg=false->(Vo sg=true->[IL (decide (a<=b))]=m5 a sg b)/\(Vo sg=false->(Vn sg=true->[IL (decide (a>b))]=m5 a sg b)/\(Vn sg=false->[IL (decide (a>=b))]=m5 a sg b))))))
 ·kernel_rfl
 delta Vr m5 Vq Vp Vo Vn;have k:∀(l:Nm),(sg==l)=true↔sg=l:=λl=>beq_iff_eq;have k2:∀(l:Nm),(sg==l)=false↔ ¬ sg=l:=λl=>by rw[←C6,beq_iff_eq]
 unfold Rl;refine⟨λh=>?_,λh1=>⟨λh=>?_,λh2=>⟨λh=>?_,λh3=>⟨λh=>?_,λh4=>⟨λh=>?_,λh5=>?_⟩⟩⟩⟩⟩
 ·rw[Hv ((k [61]).1 h)]
 ·rw[IE ((k2 [61]).1 h1),Hv ((k [33,61]).1 h)]
 ·rw[IE ((k2 [61]).1 h1),IE ((k2 [33,61]).1 h2),Hv ((k [60]).1 h)]
 ·rw[IE ((k2 [61]).1 h1),IE ((k2 [33,61]).1 h2),IE ((k2 [60]).1 h3),Hv ((k [60,61]).1 h)]
 ·rw[IE ((k2 [61]).1 h1),IE ((k2 [33,61]).1 h2),IE ((k2 [60]).1 h3),IE ((k2 [60,61]).1 h4),Hv ((k [62]).1 h)]
 ·rw[IE ((k2 [61]).1 h1),IE ((k2 [33,61]).1 h2),IE ((k2 [60]).1 h3),IE ((k2 [60,61]).1 h4),IE ((k2 [62]).1 h5)]
def rA (a:Int):IU D:=[IP .i64 a]
def sV (a:Sc) (b:IU Ev) (c:Tm):IU D:=[IP .i64 (tu a (wd b (GK c)) c)]
def sU (a:Sc):IU D:=IT H9 (Hk a)
def kN (a:Int) (b:Sc):Prop:=0<=a/\(sU b)[IJ a]? = some (zr [HI,HX .i64,HX .i64] (sU b) (IJ a))
def ae (a:Sc) (b:Int):Int:=Hf (IB (z1 (sU a) (IJ b) (0+1)) default)
def ac (a:Sc) (b:Int):Int:=Hf (IB (z1 (sU a) (IJ b) (0+1+1)) default)
def sT (a:Sc):IU D:=IT H8 (Hg a)
def ab (a:Int) (b:Sc):Prop:=0<=a/\(sT b)[IJ a]? = some (zr [HI,HX .i64,HX .i64,HK] (sT b) (IJ a))
theorem h178 (s:Sc) (env:IU Ev) (t:Tm) (hs:s.Fits) (hl:env.length<4611686018427387904) (hv:ValOk s (wd env t.name) t):IK Tryz.prog G 178 [s.d,.sl (env.map HO),t.d] (· = [.int .i64 (tu s (wd env t.name) t)]):=by
 have h208:=λk=>h208 (G:=G) s k hs;have h179:=h179 (G:=G) env t.name hl;rw[zj]at *;unfold Hq;have hev:(wd env t.name).d = .agg [.str (wd env t.name).name,.int .i64 (wd env t.name).sort,.int .i64 (wd env t.name).at_]:=rfl;rw[hev]at h179;refine zq Tryz.func178 ⟨_,rfl⟩ ?_;apply @z7 _ (IK Tryz.prog G 179 [II (IT HO env),.str (GK t)] λ(rs:IU D)=>∃(s_1:IU UInt8)(n:Int)(n_1:Int),rs=[Hd (HW s_1::IP .i64 n::rA n_1)]/\((Gh t==1)=true->[IP .i64 (FO t)]=sV s env t)/\((Gh t==1)=false->((Gh t==3)=true->kN n_1 s/\[IP .i64 (ae s n_1)]=sV s env t)/\((Gh t==3)=false->((Gh t==4)=true->kN n_1 s/\[IP .i64 (ac s n_1)]=sV s env t)/\((Gh t==4)=false->((Gh t==5)=true->ab n_1 s/\[IP .i64 (Hf (IB (z1 (sT s) (IJ n_1) (0+1)) default))]=sV s env t)/\((Gh t==5)=false->((Gh t==6)=true->ab n_1 s/\[IP .i64 (Hf (IB (z1 (sT s) (IJ n_1) (0+1+1)) default))]=sV s env t)/\((Gh t==6)=false->((Gh t==7)=true->IK Tryz.prog G 208 (Hd [.sl (sU s),.sl (sT s),.sl (IT Hy (Hi s)),.sl (IT Hx (Hh s)),.sl (IT H7 (Hn s))]::rA n_1) λ(rs:IU D)=>∃(n:Int),rs=rA n/\rA n=sV s env t)/\((Gh t==7)=false->((n==2)=true->kN n_1 s/\kN n_1 s/\[IP .i64 (Hr .i64 (Hr .i64 (12*ae s n_1)+ac s n_1))]=sV s env t)/\((n==2)=false->rA n_1=sV s env t))))))))
 ·kernel_rfl
 delta rA sV kN sU ae ac ab sT;generalize hx:wd env t.name=x at *;have b1:∀(k n:Int),(k==n)=true↔k=n:=λk n=>beq_iff_eq;have b2:∀(k n:Int),(k==n)=false↔ ¬ k=n:=λk n=>by rw[←C6,beq_iff_eq]
 simp only[b1,b2];have ei (n:Int):Hf (IB (some (IP .i64 n)) default)=n:=rfl;have sl:Km s x.at_->∃z,s.slots[x.at_.toNat]? = some z/\pk s x.at_=z:=λh=>by obtain⟨h0,h1⟩:=h;obtain⟨z,hz,_⟩:=zw (l:=s.slots) (x:=x.at_.toNat) (by omega);exact⟨z,hz,by unfold pk;rw[hz];rfl⟩
 have rm:J2 s x.at_->∃z,s.rooms[x.at_.toNat]? = some z/\kR s x.at_=z:=λh=>by obtain⟨h0,h1⟩:=h;obtain⟨z,hz,_⟩:=zw (l:=s.rooms) (x:=x.at_.toNat) (by omega);exact⟨z,hz,by unfold kR;rw[hz];rfl⟩
 refine h179.use ⟨_,_,_,rfl,λh=>?_,λk1=>⟨λh=>?_,λk3=>⟨λh=>?_,λk4=>⟨λh=>?_,λk5=>⟨λh=>?_,λk6=>⟨λh=>?_,λk7=>⟨λh=>?_,λk8=>?_⟩⟩⟩⟩⟩⟩⟩
 ·rw[tu,Hv h]
 ·have hi:=hv.sl (.inl h);obtain⟨z,hz,e⟩:=sl hi;rw[uR hz,vj hz,ei,tu,IE k1,Hv h,e];exact⟨⟨hi.1,uQ hz⟩,rfl⟩
 ·have hi:=hv.sl (.inr h);obtain⟨z,hz,e⟩:=sl hi;rw[uR hz,vi hz,ei,tu,IE k1,IE k3,Hv h,e];exact⟨⟨hi.1,uQ hz⟩,rfl⟩
 ·have hi:=hv.rm (.inl h);obtain⟨z,hz,e⟩:=rm hi;rw[uP hz,mC hz,ei,tu,IE k1,IE k3,IE k4,Hv h,e];exact⟨⟨hi.1,tY hz⟩,rfl⟩
 ·have hi:=hv.rm (.inr h);obtain⟨z,hz,e⟩:=rm hi;rw[uP hz,mB hz,ei,tu,IE k1,IE k3,IE k4,IE k5,Hv h,e];exact⟨⟨hi.1,tY hz⟩,rfl⟩
 ·refine(h208 x.at_).use ⟨_,rfl,?_⟩;rw[tu,IE k1,IE k3,IE k4,IE k5,IE k6,Hv h]
 ·have hi:=hv.sv k1 k3 k4 k5 k6 k7 h;obtain⟨z,hz,e⟩:=sl hi;rw[uR hz,vj hz,vi hz,ei,ei,tu,IE k1,IE k3,IE k4,IE k5,IE k6,IE k7,Hv h,e];exact⟨⟨hi.1,uQ hz⟩,⟨hi.1,uQ hz⟩,rfl⟩
 ·rw[tu,IE k1,IE k3,IE k4,IE k5,IE k6,IE k7,IE k8]
theorem lr {bs:IU Bd}{t:IU Int}{x:Nat}{b:Bd}{v:Int}(h1:bs[x]? = some b) (h2:t[x]? = some v):yo (bs.take (x+1)) t=yo (bs.take x) t++[⟨b.name,b.sort,v⟩]:=by
 have key:∀(x:Nat) (bs:IU Bd) (t:IU Int),bs[x]? = some b->t[x]? = some v->(bs.take (x+1)).zip t=(bs.take x).zip t++[(b,v)]:=by
  intro x;induction x with
  |zero =>
   intro bs t h1 h2;cases bs with
   |nil=>simp at h1
   |cons a r=>cases t with
    |nil=>simp at h2
    |cons w q=>simp at h1 h2;subst h1;subst h2;simp
  |succ x ih =>
   intro bs t h1 h2;cases bs with
   |nil=>simp at h1
   |cons a r=>cases t with
    |nil=>simp at h2
    |cons w q =>
     have:=ih r q (by simpa using h1) (by simpa using h2);simp only[FM,zy1]at this ⊢;rw[this];rfl
 unfold yo;rw[key x bs t h1 h2,GI];rfl
def cl (a:IU Ev) (b:Nat) (c:IU Bd) (d:IU Int):IU Ev:=a++yo (HZ b c) d
def lq (a:IU Ev) (b:Nat) (c:IU Bd) (d:IU Int):IU D:=IT HO (cl a b c d)
def ck (a:Nat) (b:IU Bd):Bool:=decide ((a:Int)<(↑(IR (IT ID b)):Int))
def Xj (a:Nat) (b:IU Bd):Prop:=(0:Int)<=(a:Int)/\(IT ID b)[IJ (a:Int)]? = some (zr [HI,HX .i64] (IT ID b) (IJ (a:Int)))
def S1 (a:IU Int) (b:Nat):D:=IP .i64 (Hf (IB (z1 (IT intD a) (IJ (b:Int)) 0) default))
def S2 (a:IU Int) (b:Nat) (c:IU Bd):IU D:=G6 [Hd (G6 [(λ(x:Sh×Nat)=>match x with|(sh,j)=>GP sh (IB (z1 (IT intD a) (IJ (b:Int)) j) default)) (HX .i64,0),(λ(x:Sh×Nat)=>match x with|(sh,j)=>GP sh (IB (z1 (IT ID c) (IJ (b:Int)) j) default)) (HX .i64,0+1),(λ(x:Sh×Nat)=>match x with|(sh,j)=>GP sh (IB (z1 (IT ID c) (IJ (b:Int)) j) default)) (HI,0)])]
theorem h92 (env:IU Ev) (bs:IU Bd) (t:IU Int) (hl:env.length<1099511627776) (hb:bs.length<1099511627776) (ht:bs.length<=t.length):IK Tryz.prog G 92 [.sl (env.map HO),.sl (bs.map ID),wz t] (· = [.sl ((env++yo bs t).map HO)]):=by
 unfold wz;refine zu (LL [(3,ze (α:=Nat) Tryz.prog G L0 0 (z8 (z6 Tryz.f92) 0) [1,2] (λx=>x<=bs.length) (λx=>bs.length - x) (λx=>[(7,.vec 0 ((env++yo (bs.take x) t).map HO)),(8,.d (.int .i64 x))]) (λ_ x=>[.vec (env++yo (bs.take x) t).length 3]))]) Tryz.func92 ⟨_,rfl⟩ (zt zz) ?_;apply @z7 _ (FA [] (IT HO env) (nat_lit 3) (nat_lit 32)/\∃(x0:Nat),x0<=IR bs/\((IT ID bs=IT ID bs/\IT intD t=IT intD t/\G6 ([]:IU D)++IT HO env=lq env x0 bs t/\(0:Int)=(x0:Int)/\IN)/\IR (G6 ([]:IU D))+IR (IT HO env)=IR (cl env x0 bs t)/\IN)/\∀(x:Nat),x<=IR bs->(ck x bs=true->Xj x bs/\Xj x bs/\((0:Int)<=(x:Int)/\(IT intD t)[IJ (x:Int)]? = some (S1 t x))/\(IR (cl env x bs t)=IR (lq env x bs t)/\3=3/\FA (lq env x bs t) [Hd [.str (Gc (IB (z1 (IT ID bs) (IJ (x:Int)) 0) default)),.int .i64 (Hf (IB (z1 (IT ID bs) (IJ (x:Int)) (0+1)) default)),S1 t x]] (nat_lit 3) (nat_lit 32))/\∃(y:Nat),y<=IR bs/\IR bs - y<IR bs - x/\(IT ID bs=IT ID bs/\IT intD t=IT intD t/\lq env x bs t++S2 t x bs=lq env y bs t/\Hr .i64 ((x:Int)+1)=(y:Int)/\IN)/\IR (lq env x bs t)+IR (S2 t x bs)=IR (cl env y bs t)/\IN)/\(ck x bs=false->[II (lq env x bs t)]=[II (IT HO (env++yo bs t))]))
 ·kernel_rfl
 delta lq cl ck Xj S1 S2;have hE:∀(l:IU Ev) (e:Ev),l.length<2199023255553->FA (l.map HO) [e.d] 3 32:=λl e h=>by have:=lx (l++[e]);unfold yH at this;refine⟨by simpa using this,by simp;omega⟩
 have hEl:∀x,(yo (bs.take x) t).length<=bs.length:=λx=>by unfold yo;simp;omega
 refine⟨⟨by have:=lx env;unfold yH at this;simpa using this,by simp;omega⟩,0,by omega,⟨⟨rfl,rfl,by simp[yo],rfl,trivial⟩,by simp[yo],trivial⟩,λx hx=>⟨λhlt=>?_,λhge=>?_⟩⟩
 ·simp only[H4,HS]at hlt;obtain⟨b,hbx,hm⟩:=zw (l:=bs) (x:=x) (by omega);obtain⟨v,hv,_⟩:=zw (l:=t) (x:=x) (by omega);have ei (n:Int):Hf (IB (some (IP .i64 n)) default)=n:=rfl;have es (n:Nm):Gc (IB (some (HW n)) default)=n:=rfl;have hg:0<=(x:Int)/\(IT ID bs)[x]? = some b.d:=⟨by omega,by rw[G5,hbx];rfl⟩;rw[HF];dsimp only;rw[w6 hbx,xE hbx,wr hbx,yK hv,ei,ei,es];have hlen:=hEl x;refine⟨hg,hg,⟨by omega,xG hv⟩,⟨by simp,rfl,hE _ ⟨b.name,b.sort,v⟩ (by simp;omega)⟩,x+1,by omega,by omega,⟨rfl,rfl,?_,by rw[zx (by omega) (by omega)];rfl,trivial⟩,?_,trivial⟩
  ·rw[lr hbx hv,←DN,GI (l₂:=[_])];rfl
  ·rw[lr hbx hv];simp;omega
 ·simp only[H4,HH]at hge;rw[Gs (by omega)]
theorem Rk {s:Sc}{out:IU (IU Int)}{c k:Nat}{w:IU Int}(h:out[k]? = some w):jE s out c (k+1)=jE s out c k++pl c w:=by unfold jE;rw[GN,h,IU.flatMap_append];simp
theorem cj (s:Sc) (out:IU (IU Int)) (c k:Nat):kO s out c k 0=jE s out c k:=by simp[kO]
theorem Rj {s:Sc}{out:IU (IU Int)}{c k:Nat}{w:IU Int}(h:out[k]? = some w):kO s out c k c=jE s out c (k+1):=by rw[Rk h,kO,h];rfl
theorem ci {s:Sc}{out:IU (IU Int)}{c k n:Nat}{w:IU Int}(h:out[k]? = some w):kO s out c k (n+1)=kO s out c k n++[w++[(n:Int)]]:=by unfold kO;rw[IU.range_succ,h,GI];simp
theorem PS {s:Sc}{out:IU (IU Int)}{c k n:Nat}(hk:k<out.length) (hn:n<=c):(kO s out c k n).length<=out.length*c:=by
 unfold kO jE;rw[FG,vZ,FS,H4,IU.length_range];have:(k+1)*c<=out.length*c:=Nat.mul_le_mul_right _ hk;rw[FC]at this;have e:min k out.length=k:=by omega
 rw[e];omega
theorem lp {l:IU (IU Int)}{i:Nat}{w:IU Int}(h:l[i]? = some w):z1 (l.map wz) i 0=some (.sl (w.map intD)):=by simp[z1,h,wz,Gq]
theorem aa {l:IU (IU Int)}{i:Nat}{w:IU Int}(h:l[i]? = some w):(l.map wz)[i]? = some (.sl (w.map intD)):=by rw[G5,h];rfl
theorem Ri (l:IU (IU Int)):yH (l.map wz) 1=true:=by unfold yH;rw[G3];intro d hd;obtain⟨t,_,rfl⟩:=Gd.1 hd;rfl
def Vm (a:Sc):D:=Hd [.sl (sU a),.sl (sT a),.sl (IT Hy (Hi a)),.sl (IT Hx (Hh a)),.sl (IT H7 (Hn a))]
def fS (a:IU Bd):Prop:=IT ID a=IT ID a
def h90q2:Prop:=IA 0 0=IA 0 0
def tz (a:Sc) (b:Nat) (c:IU Bd):IU D:=IT wz (zg a (HZ b c))
def fR (a:Sc):Prop:=sU a=sU a/\sT a=sT a/\IT Hy (Hi a)=IT Hy (Hi a)/\IT Hx (Hh a)=IT Hx (Hh a)/\IT H7 (Hn a)=IT H7 (Hn a)/\IN
def S3 (a:Sc):Prop:=fR a/\IN
def S4 (a:Nat) (b:Sc) (c:Nat) (d:IU Bd):Prop:=a<=IR (zg b (HZ c d))
def m6 (a:Nat):Prop:=(a:Int)=(a:Int)
def Xi (a:Sc) (b:Nat) (c:IU Bd) (d:Nat):IU (IU Int):=jE a (zg a (HZ b c)) (wl a c b) d
def fQ (a:Sc) (b:Nat) (c:IU Bd) (d:Nat):IU D:=IT wz (Xi a b c d)
def kM (a:Sc) (b:Nat) (c:IU Bd) (d:Nat) (e:Nat):IU (IU Int):=kO a (zg a (HZ b c)) (wl a c b) d e
def jY (a:Sc) (b:Nat) (c:IU Bd) (d:Nat) (e:Nat):IU D:=IT wz (kM a b c d e)
def fP (a:Sc) (b:Nat) (c:IU Bd) (d:Nat):IU D:=Gl (IB (z1 (tz a b c) (IJ (d:Int)) 0) default)
def aZ (a:Sc) (b:Nat) (c:IU Bd) (d:Nat):IU D:=G6 ([]:IU D)++fP a b c d
def S5 (a:Sc) (b:Nat) (c:IU Bd) (d:Nat) (e:Nat):IU D:=[II (aZ a b c d++G6 [IP .i64 (e:Int)])]
def S6 (a:Nat) (b:Nat):Prop:=Hr .i64 ((a:Int)+1)=(b:Int)/\IN
theorem h90 (s:Sc) (bs:IU Bd) (hs:s.Fits) (hb:bs.length<1099511627776) (hm:zR 2097152 s bs<=1048577):IK Tryz.prog G 90 [s.d,.sl (bs.map ID)] (· = [.sl ((zg s bs).map wz)]):=by
 have h43:=h43 (G:=G) s bs hs (by omega);have h81:=λk=>h81 (G:=G) s k hs;rw[zj]at *;refine zu (LL [(5,xH (α:=Nat) Tryz.prog G (λi=>LL [(9,xH (α:=Nat) Tryz.prog G (λk=>LL [(12,ze (α:=Nat) Tryz.prog G L0 0 (z8 (z8 (z8 (z6 Tryz.f90) 0) 0) 0) [1,2,5,6,8] (λn=>n<=wl s bs i) (λn=>wl s bs i - n) (λn=>[(7,.vec 1 ((kO s (zg s (bs.take i)) (wl s bs i) k n).map wz)),(9,.d (.int .i64 n))]) (λH n=>[H.getD 0 .dead,.vec (kO s (zg s (bs.take i)) (wl s bs i) k n).length 1]))]) 0 (z8 (z8 (z6 Tryz.f90) 0) 0) [1,2,5,6] (λk=>k<=(zg s (bs.take i)).length) (λk=>(zg s (bs.take i)).length - k) (λk=>[(7,.vec 1 ((jE s (zg s (bs.take i)) (wl s bs i) k).map wz)),(8,.d (.int .i64 k))]) (λH k=>[H.getD 0 .dead,.vec (jE s (zg s (bs.take i)) (wl s bs i) k).length 1]))]) 0 (z8 (z6 Tryz.f90) 0) [1,2] (λx=>x<=bs.length) (λx=>bs.length - x) (λx=>[(5,.d (.sl ((zg s (bs.take x)).map wz))),(6,.d (.int .i64 x))]) (λH _=>[H.getD 0 .dead]))]) Tryz.func90 ⟨_,rfl⟩ (zt (zA mixed (λ_=>zt (zA mixed (λ_=>zt zz))))) ?_;apply @z7 _ (IK Tryz.prog G 43 [Vm s,.sl (IT ID bs)] λ(rs:IU D)=>∃(n:Int),rs=rA n/\((n==0)=true->[II []]=[II (IT wz (zg s bs))])/\((n==0)=false->∃(x0:Nat),x0<=IR bs/\((fS bs/\h90q2/\[II []]=tz s x0 bs/\(0:Int)=(x0:Int)/\IN)/\S3 s)/\∀(x:Nat),x<=IR bs->(ck x bs=true->∃(x0:Nat),S4 x0 s x bs/\((fS bs/\h90q2/\tz s x bs=tz s x bs/\m6 x/\([]=fQ s x bs x0/\IR ([]:IU D)<=IR (Xi s x bs x0))/\(0:Int)=(x0:Int)/\IN)/\S3 s)/\∀(x_1:Nat),S4 x_1 s x bs->(decide ((x_1:Int)<(↑(IR (tz s x bs)):Int))=true->∃(x0:Nat),x0<=wl s bs x/\((fS bs/\h90q2/\tz s x bs=tz s x bs/\m6 x/\fQ s x bs x_1=jY s x bs x_1 x0/\m6 x_1/\(0:Int)=(x0:Int)/\IN)/\fR s/\IR (Xi s x bs x_1)=IR (kM s x bs x_1 x0)/\IN)/\∀(x_2:Nat),x_2<=wl s bs x->Xj x bs/\IK Tryz.prog G 81 [Vm s,.int .i64 (Hf (IB (z1 (IT ID bs) (IJ (x:Int)) (0+1)) default))] λ(rs:IU D)=>∃(n:Int),rs=rA n/\(decide ((x_2:Int)<n)=true->((0:Int)<=(x_1:Int)/\(tz s x bs)[IJ (x_1:Int)]? = some (II (fP s x bs x_1)))/\FA [] (fP s x bs x_1) (nat_lit 1) (nat_lit 8)/\(IR (G6 ([]:IU D))+IR (fP s x bs x_1)=IR (aZ s x bs x_1)/\1=1/\FA (aZ s x bs x_1) [IP .i64 (x_2:Int)] (nat_lit 1) (nat_lit 8))/\(IR (kM s x bs x_1 x_2)=IR (jY s x bs x_1 x_2)/\1=1/\FA (jY s x bs x_1 x_2) (S5 s x bs x_1 x_2) (nat_lit 1) (nat_lit 24))/\∃(y:Nat),y<=wl s bs x/\wl s bs x - y<wl s bs x - x_2/\(fS bs/\h90q2/\tz s x bs=tz s x bs/\m6 x/\jY s x bs x_1 x_2++G6 (S5 s x bs x_1 x_2)=jY s x bs x_1 y/\m6 x_1/\S6 x_2 y)/\fR s/\IR (jY s x bs x_1 x_2)+IR (G6 (S5 s x bs x_1 x_2))=IR (kM s x bs x_1 y)/\IN)/\(decide ((x_2:Int)<n)=false->∃(y:Nat),S4 y s x bs/\IR (zg s (HZ x bs)) - y<IR (zg s (HZ x bs)) - x_1/\(fS bs/\h90q2/\tz s x bs=tz s x bs/\m6 x/\jY s x bs x_1 x_2=fQ s x bs y/\S6 x_1 y)/\fR s/\IR (kM s x bs x_1 x_2)=IR (Xi s x bs y)/\IN))/\(decide ((x_1:Int)<(↑(IR (tz s x bs)):Int))=false->∃(y:Nat),y<=IR bs/\IR bs - y<IR bs - x/\(fS bs/\h90q2/\fQ s x bs x_1=tz s y bs/\S6 x y)/\S3 s))/\(ck x bs=false->[II (tz s x bs)]=[II (IT wz (zg s bs))])))
 ·kernel_rfl
 delta Vm sU rA sV kN ae ac ab sT fS h90q2 tz S3 fR ck lq cl Xj S1 S2 S4 m6 fQ Xi jY kM fP aZ S5 S6;have hbd:=yW hs (c:=2097152) (by decide) bs;refine h43.use ⟨_,rfl,λh=>?_,λh=>?_⟩
 ·rw[pj (by simpa using h)];rfl
 have h0:0<zR 2097152 s bs:=by
  have:zR 2097152 s bs≠0:=by simpa using h
  omega
 have hlt:=λx hx=>ls hs (c:=2097152) (by decide) h0 (by omega) x hx;have hdn:=λx (hx:x<=bs.length)=>kP hs (c:=2097152) (by decide) h0 (by omega) (bs.length - x) x (by omega);refine⟨0,by omega,⟨⟨rfl,rfl,rfl,rfl,trivial⟩,⟨rfl,rfl,rfl,rfl,rfl,trivial⟩,trivial⟩,λx hx=>⟨λhl=>?_,λhge=>?_⟩⟩
 ·simp only[H4,HS]at hl;obtain⟨b,hbx,hbm⟩:=zw (l:=bs) (x:=x) (by omega);have hcnt:wl s bs x=(zf s b.sort).length:=by unfold wl;rw[hbx];rfl
  have ei (n:Int):Hf (IB (some (IP .i64 n)) default)=n:=rfl;have l1:=hlt x (by omega);have l2:=hlt (x+1) (by omega);have d2:=hdn (x+1) (by omega);have d1:=hdn x (by omega);have hnl0:=cp hs b.sort;have hprod:(zg s (bs.take x)).length*wl s bs x<=1048577:=by rw[tT s hbx,vZ,←hcnt]at l2;omega
  have hfull:zg s (bs.take (x+1))=(zg s (bs.take x)).flatMap (pl (wl s bs x)):=by rw[tT s hbx,hcnt]
  have hmem:=o8 s bs x (by omega);generalize zg s (bs.take x)=out at *;refine⟨0,by omega,⟨⟨rfl,rfl,rfl,rfl,⟨rfl,by simp⟩,rfl,trivial⟩,⟨rfl,rfl,rfl,rfl,rfl,trivial⟩,trivial⟩,λk hk=>⟨λhkl=>?_,λhkg=>?_⟩⟩
  ·simp only[H4,HS]at hkl;obtain⟨w,hwk,hwm⟩:=zw (l:=out) (x:=k) (by omega);have hwl:=hmem w hwm;refine⟨0,by omega,⟨⟨rfl,rfl,rfl,rfl,by rw[cj],rfl,rfl,trivial⟩,⟨rfl,rfl,rfl,rfl,rfl,trivial⟩,by rw[cj],trivial⟩,λn hn=>?_⟩;rw[HF,w6 hbx,wr hbx,ei];refine⟨⟨by omega,by rw[G5,hbx];rfl⟩,(h81 b.sort).use ⟨_,rfl,λhnl=>?_,λhng=>?_⟩⟩
   ·rw[HS,←hcnt]at hnl;have hml:=PS (s:=s) (n:=n) (c:=wl s bs x) (show k<out.length by omega) (by omega);rw[HF,lp hwk];have el:Gl (IB (some (II (w.map intD))) default)=w.map intD:=rfl;rw[el];have hF:=u0 (w++[(n:Int)]);have hF0:=u0 w;refine⟨⟨by omega,aa hwk⟩,⟨by simpa using hF0,by simp;omega⟩,⟨by simp,rfl,by simpa[intD]using hF,by simp;omega⟩,⟨by simp,rfl,?_,by simp;omega⟩,n+1,by omega,by omega,⟨rfl,rfl,rfl,rfl,?_,rfl,by rw[zx (by omega) (by omega)];rfl,trivial⟩,⟨rfl,rfl,rfl,rfl,rfl,trivial⟩,?_,trivial⟩
    ·have:=Ri (kO s out (wl s bs x) k n);unfold yH at this;rw[Fb,this];rfl
    ·rw[ci hwk,GI];simp[wz,intD]
    ·rw[ci hwk];simp
   ·rw[HH,←hcnt]at hng;have hne:n=wl s bs x:=by omega
    subst hne;have hf:=Rj (s:=s) (c:=wl s bs x) hwk;refine⟨k+1,by omega,by omega,⟨rfl,rfl,rfl,rfl,by rw[hf],by rw[zx (by omega) (by omega)];rfl,trivial⟩,⟨rfl,rfl,rfl,rfl,rfl,trivial⟩,by rw[hf],trivial⟩
  ·simp only[H4,HH]at hkg;have hK:jE s out (wl s bs x) k=out.flatMap (pl (wl s bs x)):=by unfold jE;rw[Gs (by omega)]
   exact⟨x+1,by omega,by omega,⟨rfl,rfl,by rw[hK,hfull],by rw[zx (by omega) (by omega)];rfl,trivial⟩,⟨rfl,rfl,rfl,rfl,rfl,trivial⟩,trivial⟩
 ·simp only[H4,HH]at hge;rw[Gs (by omega)]
end
section
def xk (w:IU Pl) (i:Int):Pl:=(w[i.toNat]?).getD ⟨0,0⟩
def cg (s:Sc) (w:IU Pl) (env:IU Ev) (k:Int) (op:Nm) (t u:Tm):Bool :=if k=9 then Rl (tu s (wd env t.name) t) op (tu s (wd env u.name) u)else if k=3 then(xk w (wd env t.name).at_).slot==(wd env u.name).at_ else if k=4 then(xk w (wd env t.name).at_).room==(wd env u.name).at_ else if k=5 then yv s.lessons (·.who) (wd env u.name).at_ (wd env t.name).at_ else if k=6 then yv s.lessons (·.groups) (wd env u.name).at_ (wd env t.name).at_ else if k=7 then yv s.people (·.away) (wd env t.name).at_ (wd env u.name).at_ else yv s.rooms (·.shut) (wd env t.name).at_ (wd env u.name).at_
def aY (k n:Int) (c all:Nat):Bool :=if k=14 then c==all else if k=15 then decide (c>0)else if k=16 then decide ((c:Int)>=n)else decide ((c:Int)<=n)
mutual
def Fm.sem (s:Sc) (w:IU Pl):Fm->IU Ev->Bool
 |.mk k op n ts bs l,env =>
  if k=1 then true else if k=2 then false else if k=10 then !Fm.semL s w l 0 env else if k=11 then Fm.semL s w l 0 env&&Fm.semL s w l 1 env
  else if k=12 then Fm.semL s w l 0 env||Fm.semL s w l 1 env else if k=13 then !Fm.semL s w l 0 env||Fm.semL s w l 1 env
  else if k<14 then cg s w env k op (xh ts 0) (xh ts 1)
  else aY k n ((zg s bs).countP λt=>Fm.semL s w l 0 (env++yo bs t)) (zg s bs).length
def Fm.semL (s:Sc) (w:IU Pl):IU Fm->Nat->IU Ev->Bool
 |[],_,_=>false
 |x::_,0,env=>Fm.sem s w x env
 |_::r,i+1,env=>Fm.semL s w r i env
end
def Ev.b (y:Ev):Bd:=⟨y.name,y.sort⟩
structure Pre (s:Sc) (w:IU Pl) (env:IU Ev) (f:Fm):Prop where
 form:f.formB=true
 ty:f.ty (env.map Ev.b)=0
 small:f.broad 2097152 s<=1048576
 inE:∀y∈env,0<=y.at_/\y.at_<zU s y.sort
 wk:w.length=s.lessons.length
 len:env.length+f.wt<1099511627776
theorem PR {env:IU Ev}{nm:Nm}(h:yt (env.map Ev.b) nm=true):wd env nm∈env/\(wd env nm).name=nm/\sortE (env.map Ev.b) nm=(wd env nm).sort:=by
 induction env with
 |nil=>cases h
 |cons y r ih =>
  by_cases hy:(y.name==nm)=true
  ·have:wd (y::r) nm=y:=by unfold wd;rw[EQ,hy];rfl
   rw[this];refine⟨by simp,by simpa using hy,?_⟩;rw[Gb,sortE];have:(y.b.name==nm)=true:=hy;rw[Hv this];rfl
  ·have hy':(y.name==nm)=false:=by simpa using hy
   have hr:yt (r.map Ev.b) nm=true:=by simp only[Gb,yt,E5,F9]at h;exact h.resolve_left hy
   obtain⟨i1,i2,i3⟩:=ih hr;have:wd (y::r) nm=wd r nm:=by unfold wd;rw[EQ,hy']
   rw[this];refine⟨by simp[i1],i2,?_⟩;rw[Gb,sortE];have:¬ (y.b.name==nm)=true:=hy;rw[IE this];exact i3
theorem jX (s:Sc):zU s 2=s.slots.length:=by unfold zU zf;simp
theorem Xh (s:Sc):zU s 3=s.rooms.length:=by unfold zU zf;simp
theorem ur (s:Sc):zU s 1=s.lessons.length:=by unfold zU zf;simp
theorem aX {s:Sc}{env:IU Ev}{t:Tm}(hin:∀y∈env,0<=y.at_/\y.at_<zU s y.sort) (h:(zV (env.map Ev.b) t).2=0):ValOk s (wd env t.name) t:=by
 unfold zV at h;split at h
 ·rename_i hk;exact⟨λh=>by omega,λh=>by omega,λh=>Hu hk h⟩
 ·split at h
  ·cases h
  ·rename_i hh;have hh:yt (env.map Ev.b) t.name=true:=by simpa using hh
   obtain⟨o1,o2,o3⟩:=PR hh;obtain⟨b1,b2⟩:=hin _ o1;split at h
   ·cases h
   ·rename_i hq;rw[o3]at hq;refine⟨λhk=>?_,λhk=>?_,λ_ _ _ _ _ _ h2=>?_⟩
    ·have ha:ue t.kind=2:=by rcases hk with hk|hk<;>rw[hk]<;>rfl
     rw[ha]at hq;have:(wd env t.name).sort=2:=by
      rcases BH ((wd env t.name).sort=2)with h|h
      ·exact h
      ·exact Hu ⟨by decide,h⟩ hq
     rw[this,jX]at b2;exact⟨b1,b2⟩
    ·have ha:ue t.kind=3:=by rcases hk with hk|hk<;>rw[hk]<;>rfl
     rw[ha]at hq;have:(wd env t.name).sort=3:=by
      rcases BH ((wd env t.name).sort=3)with h|h
      ·exact h
      ·exact Hu ⟨by decide,h⟩ hq
     rw[this,Xh]at b2;exact⟨b1,b2⟩
    ·rw[h2,jX]at b2;exact⟨b1,b2⟩
theorem Vl {s:Sc}{env:IU Ev}{t:Tm}{k:Int}(hin:∀y∈env,0<=y.at_/\y.at_<zU s y.sort) (hk:t.kind=2) (h:mb (env.map Ev.b) t k=0):0<=(wd env t.name).at_/\(wd env t.name).at_<zU s k:=by
 have hk1:¬ t.kind=1:=by omega
 have ha:ue t.kind=0:=by rw[hk];rfl
 have hg:∀x,s9 t.kind x=x:=λx=>by rw[hk];rfl
 have ht:zV (env.map Ev.b) t=if yt (env.map Ev.b) t.name=false then(0,81)else(sortE (env.map Ev.b) t.name,0):=by unfold zV;rw[IE hk1,ha,hg];simp
 unfold mb at h;rw[ht]at h;cases hh:yt (env.map Ev.b) t.name with
 |false=>rw[hh]at h;simp at h
 |true =>
  obtain⟨o1,o2,o3⟩:=PR hh;rw[hh,o3]at h;simp only[Bool.true_eq_false,if_false,true_and,ne_eq,ite_not]at h;have hso:(wd env t.name).sort=k:=by
   split at h
   ·assumption
   ·cases h
  have:=hin _ o1;rw[hso]at this;exact this
section
variable {G:Nat->IQ (IU D)}
def h142q2:IU Sh:=[HX .i64,HI,HX .i64]
def Vk (a:Fm):D:=zr h142q2 (IT Hq (HM a)) (IJ 0)
def Vj (a:Fm):Prop:=(0:Int)<=0/\(IT Hq (HM a))[IJ 0]? = some (Vk a)
def Vi (a:Fm):Prop:=(0:Int)<=1/\(IT Hq (HM a))[IJ 1]? = some (zr h142q2 (IT Hq (HM a)) (IJ 1))
def h142q9 (a:Sc):D:=Hd [.sl (IT H9 (Hk a)),.sl (IT H8 (Hg a)),.sl (IT Hy (Hi a)),.sl (IT Hx (Hh a)),.sl (IT H7 (Hn a))]
def aW (a:Sc) (b:IU Pl) (c:IU Ev) (d:Fm):IU D:=[IL (cg a b c (Hj d) (HE d) (xh (HM d) 0) (xh (HM d) 1))]
def kL (a:IU D) (b:Sc) (c:IU Pl) (d:IU Ev) (e:Fm):Prop:= ∃(b_1:Bool),a=[IL b_1]/\[IL b_1]=aW b c d e
def o9 (a:Int) (b:Int):IU D:=[IP .i64 a,.int .i64 b]
def Vh (a:IU D) (b:IU UInt8) (c:Int) (d:Int):Prop:=a=[Hd (HW b::o9 c d)]
def Vg (a:Int) (b:IU Pl):Prop:=0<=a/\(IT H6 b)[IJ a]? = some (zr [HX .i64,HX .i64] (IT H6 b) (IJ a))
theorem h142 (s:Sc) (w:IU Pl) (env:IU Ev) (f:Fm) (hs:s.Fits) (ha:zC f.kind=true) (hp:Pre s w env f):IK Tryz.prog G 142 [s.d,xl w,.sl (env.map HO),f.d] (· = [.bool (cg s w env f.kind f.name (xh f.ts 0) (xh f.ts 1))]):=by
 have hlen:=hp.len;have hl:env.length<4611686018427387904:=by omega
 have h178:=λt h=>h178 (G:=G) s env t hs hl h;have h179:=λnm=>h179 (G:=G) env nm hl;have hev:∀y:Ev,y.d = .agg [.str y.name,.int .i64 y.sort,.int .i64 y.at_]:=λ_=>rfl;have h180:=λa b=>h180 (G:=G) s a b hs;have h181:=λa b=>h181 (G:=G) s a b hs;have h182:=λa b=>h182 (G:=G) s a b hs;have h183:=λa b=>h183 (G:=G) s a b hs;rw[zj]at *;rw[zO,yf f];refine zq Tryz.func142 ⟨_,rfl⟩ ?_;apply @z7 _ (((Hj f==9)=true->Vj f/\Vi f/\IK Tryz.prog G 178 [h142q9 s,.sl (IT HO env),Vk f] λ(rs:IU D)=>∃(n:Int),rs=[IP .i64 n]/\IK Tryz.prog G 178 [h142q9 s,.sl (IT HO env),zr h142q2 (IT Hq (HM f)) (IJ 1)] λ(rs:IU D)=>∃(n_1:Int),rs=[IP .i64 n_1]/\IK Tryz.prog G 177 [IP .i64 n,.str (HE f),.int .i64 n_1] λ(rs:IU D)=>kL rs s w env f)/\((Hj f==9)=false->Vj f/\IK Tryz.prog G 179 [II (IT HO env),.str (Gc (IB (z1 (IT Hq (HM f)) (IJ 0) (0+1)) default))] λ(rs:IU D)=>∃(s_1:IU UInt8)(n:Int)(n_1:Int),Vh rs s_1 n n_1/\IN/\Vi f/\IK Tryz.prog G 179 [II (IT HO env),.str (Gc (IB (z1 (IT Hq (HM f)) (IJ 1) (0+1)) default))] λ(rs: IU D)=>∃(s_2:IU UInt8)(n:Int)(n_2:Int),Vh rs s_2 n n_2/\IN/\((Hj f==3)=true->Vg n_1 w/\[IL (Hf (IB (z1 (IT H6 w) (IJ n_1) 0) default)==n_2)]=aW s w env f)/\((Hj f==3)=false->((Hj f==4)=true->Vg n_1 w/\[IL (Hf (IB (z1 (IT H6 w) (IJ n_1) (0+1)) default)==n_2)]=aW s w env f)/\((Hj f==4)=false->((Hj f==5)=true->IK Tryz.prog G 180 (h142q9 s::o9 n_1 n_2) λ(rs:IU D)=>kL rs s w env f)/\((Hj f==5)=false->((Hj f==6)=true->IK Tryz.prog G 181 (h142q9 s::o9 n_1 n_2) λ(rs:IU D)=>kL rs s w env f)/\((Hj f==6)=false->((Hj f==7)=true->IK Tryz.prog G 182 (h142q9 s::o9 n_1 n_2) λ(rs:IU D)=>kL rs s w env f)/\((Hj f == 7)=false->IK Tryz.prog G 183 (h142q9 s::o9 n_1 n_2) λ(rs:IU D)=>kL rs s w env f)))))))
 ·kernel_rfl
 delta Vj Vk h142q2 Vi h142q9 kL aW Vh o9 Vg;have hin:=hp.inE;have hsh:=vx hp.form;have hty:=hp.ty;rw[A1]at hty;have hwk:=hp.wk;have t0:IJ 0=0:=rfl;have t1:IJ 1=1:=rfl;have es (n:Nm):Gc (IB (some (HW n)) default)=n:=rfl;have ei (n:Int):Hf (IB (some (IP .i64 n)) default)=n:=rfl;clear hp;have two:∀a b:Tm,(zr [HX Ho,HI,HX Ho] (IT Hq [a,b]) 0=a.d/\zr [HX Ho,HI,HX Ho] (IT Hq [a,b]) 1=b.d)/\(z1 (IT Hq [a,b]) 0 (0+1)=some (.str a.name)/\z1 (IT Hq [a,b]) 1 (0+1)=some (.str b.name))/\(0<=(0:Int)/\(IT Hq [a,b])[0]? = some a.d)/\(0<=(1:Int)/\(IT Hq [a,b])[1]? = some b.d):=λa b =>
  ⟨⟨uS (ts:=[a,b]) (i:=0) rfl,uS (ts:=[a,b]) (i:=1) rfl⟩,⟨gS (ts:=[a,b]) (i:=0) rfl,gS (ts:=[a,b]) (i:=1) rfl⟩,⟨by decide,rfl⟩,⟨by decide,rfl⟩⟩
 have b1:∀(k n:Int),(k==n)=true↔k=n:=λk n=>beq_iff_eq;have b2:∀(k n:Int),(k==n)=false↔ ¬ k=n:=λk n=>by rw[←C6,beq_iff_eq]
 simp only[b1,b2];cases hsh with
 |atom k a b hk ha1 hb1 ha2 hb2 =>
  obtain⟨⟨g0,g1⟩,⟨c0,c1⟩,v0,v1⟩:=two a b;have hk9:¬ k=9:=by omega
  have hab:zC k=true:=ha;have hty:gN (env.map Ev.b) k a b=0:=by rw[IE (show ¬ (E1 k [] 0 [a,b] [] []).kind=9 from hk9),Hv ha]at hty;exact hty
  have hA:mb (env.map Ev.b) a (sZ k).1=0/\mb (env.map Ev.b) b (sZ k).2=0:=by
   unfold gN at hty;by_cases h0:mb (env.map Ev.b) a (sZ k).1=0
   ·rw[IE (by simp[h0])]at hty;exact⟨h0,hty⟩
   ·rw[Hv h0]at hty;exact Hu hty h0
  have hva:=Vl hin ha2 hA.1;have hvb:=Vl hin hb2 hA.2;rw[t0,t1];show(k=9->_)/\(¬ k=9->_);refine⟨λh=>Hu h hk9,λ_=>?_⟩;simp only[HM,Hj,HE];rw[g0,g1,c0,c1,es,es];have e0:xh [a,b] 0=a:=rfl;have e1:xh [a,b] 1=b:=rfl;rw[e0,e1];refine⟨v0,(h179 a.name).use ⟨_,_,_,rfl,trivial,v1,(h179 b.name).use ⟨_,_,_,rfl,trivial,?_⟩⟩⟩;unfold cg;rw[IE hk9];refine⟨λh=>?_,λh3=>⟨λh=>?_,λh4=>⟨λh=>(h180 _ _).use ⟨_,rfl,?_⟩,λh5=>⟨λh=>(h181 _ _).use ⟨_,rfl,?_⟩,λh6=>⟨λh=>(h182 _ _).use ⟨_,rfl,?_⟩,λh7=>(h183 _ _).use ⟨_,rfl,?_⟩⟩⟩⟩⟩⟩
  ·have hq:(sZ k).1=1:=by rw[h];rfl
   rw[hq,ur]at hva;obtain⟨z,hz,_⟩:=zw (l:=w) (x:=(wd env a.name).at_.toNat) (by omega);have hpl:xk w (wd env a.name).at_=z:=by unfold xk;rw[hz];rfl
   rw[vh hz,xZ hz,ei,Hv h,hpl];exact⟨⟨hva.1,vg hz⟩,rfl⟩
  ·have hq:(sZ k).1=1:=by rw[h];rfl
   rw[hq,ur]at hva;obtain⟨z,hz,_⟩:=zw (l:=w) (x:=(wd env a.name).at_.toNat) (by omega);have hpl:xk w (wd env a.name).at_=z:=by unfold xk;rw[hz];rfl
   rw[vh hz,xY hz,ei,IE h3,Hv h,hpl];exact⟨⟨hva.1,vg hz⟩,rfl⟩
  ·rw[IE h3,IE h4,Hv h]
  ·rw[IE h3,IE h4,IE h5,Hv h]
  ·rw[IE h3,IE h4,IE h5,IE h6,Hv h]
  ·rw[IE h3,IE h4,IE h5,IE h6,IE h7]
 |cmp sg a b hsg ha1 hb1 =>
  obtain⟨⟨g0,g1⟩,⟨c0,c1⟩,v0,v1⟩:=two a b;have hty:d7 (env.map Ev.b) sg a b=0:=by rw[Hv (show(E1 9 sg 0 [a,b] [] []).kind=9 from rfl)]at hty;exact hty
  have hA:(zV (env.map Ev.b) a).2=0/\(zV (env.map Ev.b) b).2=0:=by
   unfold d7 at hty;by_cases h0:(zV (env.map Ev.b) a).2=0
   ·rw[IE (by simp[h0])]at hty;by_cases h1:(zV (env.map Ev.b) b).2=0
    ·exact⟨h0,h1⟩
    ·rw[Hv h1]at hty;exact Hu hty h1
   ·rw[Hv h0]at hty;exact Hu hty h0
  rw[t0,t1];show((9:Int)=9->_)/\(¬ (9:Int)=9->_);refine⟨λ_=>?_,λh=>Hu rfl h⟩;simp only[HM,Hj,HE];rw[g0,g1];refine⟨v0,v1,(h178 a (aX hin hA.1)).use ⟨_,rfl,(h178 b (aX hin hA.2)).use ⟨_,rfl,(J3 _ _ _).use ⟨_,rfl,?_⟩⟩⟩⟩;rfl
 |const k hk=>rcases hk with rfl|rfl<;>cases ha
 |not x hx=>cases ha
 |two k x y hk hx hy=>rcases hk with rfl|rfl|rfl<;>cases ha
 |quant k bs x hk hb h1 h6 hx=>rcases hk with rfl|rfl<;>cases ha
 |count k n bs x hk h0 hn hb h1 h6 hx=>rcases hk with rfl|rfl<;>cases ha
end
end
open Go.Fo.Ev renaming b->GL
open Go.Fo.Fm renaming sem->GJ,semL->Fh
theorem tt {c v m:Int}(h:zF c v<=m) (hm:m<c):v<=m:=by unfold zF at h;split at h<;>omega
theorem PQ (s:Sc) (bs:IU Bd):∀x,x<=bs.length->∀t∈zg s (bs.take x),∀(i:Nat) (b:Bd) (v:Int),bs[i]? = some b->t[i]? = some v->0<=v/\v<zU s b.sort
 |0,_,t,ht,i,b,v,_,hv=>by simp[zg]at ht;subst ht;simp at hv
 |x+1,hx,t,ht,i,b,v,hb,hv=>by
  obtain⟨c,hc,_⟩:=zw (l:=bs) (x:=x) (by omega);rw[tT s hc,zyt]at ht;obtain⟨u,hu,ht⟩:=ht;unfold pl at ht;obtain⟨n,hn,rfl⟩:=Gd.1 ht;have hul:=o8 s bs x (by omega) u hu;rcases Nat.lt_trichotomy i x with h|h|h
  ·rw[Ez (by omega)]at hv;exact PQ s bs x (by omega) u hu i b v hb hv
  ·subst h;rw[EG (by omega),hul]at hv;simp at hv;subst hv;rw[hc]at hb;cases hb;have:=IU.mem_range.1 hn;unfold zU;omega
  ·rw[Gt (by simp;omega)]at hv;cases hv
theorem Vf {s:Sc}{bs:IU Bd}{t:IU Int}(ht:t∈zg s bs):∀y∈yo bs t,0<=y.at_/\y.at_<zU s y.sort:=by
 intro y hy;unfold yo at hy;obtain⟨p,hp,rfl⟩:=Gd.1 hy;obtain⟨i,hi,he⟩:=EF.1 hp;have hi1:i<bs.length:=by simp at hi;omega
 have hi2:i<t.length:=by simp at hi;omega
 rw[IU.getElem_zip]at he;have ht':t∈zg s (bs.take bs.length):=by rwa [FR]
 have:=PQ s bs bs.length (GE _) t ht' i bs[i] t[i] (Ff hi1) (Ff hi2);rw[←he];exact this
theorem u9 {s:Sc}{bs:IU Bd}{t:IU Int}(ht:t∈zg s bs):t.length=bs.length:=by
 have ht':t∈zg s (bs.take bs.length):=by rwa [FR]
 exact o8 s bs bs.length (GE _) t ht'
theorem env_b:∀{bs:IU Bd}{t:IU Int},t.length=bs.length->(yo bs t).map GL=bs
 |[],_,_=>rfl
 |_::_,[],h=>by simp at h
 |b::r,v::q,h=>by have:=env_b (bs:=r) (t:=q) (by simpa using h);unfold yo at this ⊢;simp only[zy1,Gb,this];rfl
theorem aV {bs:IU Bd}{t:IU Int}(h:t.length=bs.length):(yo bs t).length=bs.length:=by unfold yo;simp[h]
theorem S7 {s:Sc}{w:IU Pl}{env:IU Ev}{x:Fm}(hs:s.Fits) (hx:x.formB=true) (h:Pre s w env (.mk 10 [] 0 [] [] [x])):Pre s w env x:=by
 have hw:=(E1 10 [] 0 [] [] [x]).wt_eq;have hb:=xD hs (c:=2097152) (by decide) x;refine⟨hx,?_,?_,h.inE,h.wk,?_⟩
 ·have:=h.ty;rw[A1]at this;simp only[Hj,HN,Hz,sE]at this;rw[IE (by decide),IE (by decide)]at this;simp only[Eu]at this;split at this
  ·assumption
  ·rename_i h2;simpa using h2
 ·have:=h.small;rw[Cw]at this;have h1:=tt this (by decide);simp only[Hj,Hz,Fw]at h1;rw[IE (by decide)]at h1;have h2:=tt (m:=1048575) (show zF 2097152 (0+x.broad 2097152 s)<=1048575 by omega) (by decide);omega
 ·have:=h.len;simp only[Eg,Hz]at hw;omega
theorem ip {s:Sc}{w:IU Pl}{env:IU Ev}{k:Int}{x y:Fm}(hs:s.Fits) (hk:k=11∨k=12∨k=13) (hx:x.formB=true) (hy:y.formB=true) (h:Pre s w env (.mk k [] 0 [] [] [x,y])):Pre s w env x/\Pre s w env y:=by
 have hw:=(E1 k [] 0 [] [] [x,y]).wt_eq;have hb:=xD hs (c:=2097152) (by decide) x;have hb2:=xD hs (c:=2097152) (by decide) y;have hty:x.ty (env.map GL)=0/\y.ty (env.map GL)=0:=by
  have:=h.ty;rw[A1]at this;simp only[Hj,HN,Hz,sE]at this;have h9:¬ k=9:=by omega
  have ha:¬ zC k=true:=by rcases hk with rfl|rfl|rfl<;>decide
  rw[IE h9,IE ha]at this;simp only[Eu]at this;by_cases h1:x.ty (env.map GL)=0
  ·rw[IE (by simp[h1])]at this;by_cases h2:y.ty (env.map GL)=0
   ·exact⟨h1,h2⟩
   ·rw[Hv h2]at this;exact Hu this h2
  ·rw[Hv h1]at this;exact Hu this h1
 have hsm:x.broad 2097152 s<=1048576/\y.broad 2097152 s<=1048576:=by have:=h.small;rw[Cw]at this;have h1:=tt this (by decide);simp only[Hj,Hz,Fw]at h1;rw[IE (by omega)]at h1;have h2:=tt (m:=1048575) (show zF 2097152 (zF 2097152 (0+x.broad 2097152 s)+y.broad 2097152 s)<=1048575 by omega) (by decide);have h0:=yx (c:=2097152) (x:=0+x.broad 2097152 s) (by decide) (by omega);have h3:=tt (m:=1048575) (show zF 2097152 (0+x.broad 2097152 s)<=1048575 by omega) (by decide);omega
 have hl:=h.len;simp only[Eg,Hz]at hw;exact⟨⟨hx,hty.1,hsm.1,h.inE,h.wk,by omega⟩,⟨hy,hty.2,hsm.2,h.inE,h.wk,by omega⟩⟩
theorem PP {c:Bool}{a b:En}(h:(if c=true then some a else none)=some b):b=a:=by cases c<;>simp_all
theorem cf {s:Sc}{w:IU Pl}{env:IU Ev}{k n:Int}{bs:IU Bd}{x:Fm}(hs:s.Fits) (hk:14<=k) (hx:x.formB=true) (h:Pre s w env (.mk k [] n [] bs [x])):zR 2097152 s bs<=1048577/\∀t∈zg s bs,Pre s w (env++yo bs t) x:=by
 have hw:=(E1 k [] n [] bs [x]).wt_eq;have hb:=xD hs (c:=2097152) (by decide) x;have hm:=yW hs (c:=2097152) (by decide) bs;have key:∀Y:Int,0<=Y->1<=zF 2097152 (Y+1):=by intro Y hY;unfold zF;split<;>omega
 have hx1:1<=x.broad 2097152 s:=by
  rw[Cw];apply key;have:=cn hs (c:=2097152) (by decide) x.l 0 (by decide) (by decide);have h2:=yW hs (c:=2097152) (by decide) x.bs;split
  ·exact(yx (by decide) (DK this.1 h2.1)).1
  ·exact this.1
 have e1:Fw 2097152 s [x] 0=x.broad 2097152 s:=by simp only[Fw];unfold zF;split<;>omega
 have hsm:x.broad 2097152 s*zR 2097152 s bs<=1048575:=by have:=h.small;rw[Cw,Hv (show(E1 k [] n [] bs [x]).kind>=14 from hk)]at this;have h1:=tt this (by decide);simp only[Hz,HN]at h1;rw[e1]at h1;exact tt (c:=2097152) (by omega) (by decide)
 have hmany:zR 2097152 s bs<=1048577:=by have:=zzK hx1 hm.1;omega
 refine⟨hmany,λt ht=>?_⟩;have hpos:1<=zR 2097152 s bs:=by
  rcases Ce hm.1 with h0|h0
  ·omega
  ·rw[pj h0.symm]at ht;cases ht
 have htl:=u9 ht;refine⟨hx,?_,?_,?_,h.wk,?_⟩
 ·have hty:=h.ty;have h9:¬ (E1 k [] n [] bs [x]).kind=9:=λh=>by have h:k=9:=h;omega
  have ha:¬ zC (E1 k [] n [] bs [x]).kind=true:=by show ¬ zC k=true;simp[zC];omega
  rw[A1,IE h9,IE ha,NZ]at hty;simp only[HN,Hz]at hty;split at hty
  ·cases hty
  ·rename_i e' he;have he2:=PP he;subst he2;rw[GI,env_b htl];simp only[Eu]at hty;by_cases h1:x.ty (env.map GL++bs)=0
   ·exact h1
   ·rw[Hv h1]at hty;exact Hu hty h1
 ·have:=Av hpos hb.1;omega
 ·intro y hy;rcases FK.1 hy with hy|hy
  ·exact h.inE y hy
  ·exact Vf ht y hy
 ·have:=h.len;rw[FG,aV htl];simp only[Eg,Hz,HN]at hw;omega
theorem kK {f:Fm}(h:Shape f):(∃k:Int,(k=1∨k=2)/\f = .mk k [] 0 [] [] [])∨(3<=f.kind/\f.kind<=9)∨(∃x:Fm,x.formB=true/\f = .mk 10 [] 0 [] [] [x])∨(∃(k:Int) (x y:Fm),(k=11∨k=12∨k=13)/\x.formB=true/\y.formB=true/\f = .mk k [] 0 [] [] [x,y])∨(∃(k n:Int) (bs:IU Bd) (x:Fm),(14<=k/\k<=17)/\x.formB=true/\f = .mk k [] n [] bs [x]):=by
 cases h with
 |const k hk=>exact .inl ⟨k,hk,rfl⟩
 |atom k a b hk=>exact .inr (.inl (by show 3<=k/\k<=9;omega))
 |cmp sg a b=>exact .inr (.inl (by show(3:Int)<=9/\(9:Int)<=9;decide))
 |not x hx=>exact .inr (.inr (.inl ⟨x,hx,rfl⟩))
 |two k x y hk hx hy=>exact .inr (.inr (.inr (.inl ⟨k,x,y,hk,hx,hy,rfl⟩)))
 |quant k bs x hk hb h1 h6 hx=>exact .inr (.inr (.inr (.inr ⟨k,0,bs,x,by omega,hx,rfl⟩)))
 |count k n bs x hk h0 hn hb h1 h6 hx=>exact .inr (.inr (.inr (.inr ⟨k,n,bs,x,by omega,hx,rfl⟩)))
theorem Xg {s:Sc}{w:IU Pl}{f:Fm}{env:IU Ev}(h:3<=f.kind/\f.kind<=9):f.sem s w env=cg s w env f.kind f.name (xh f.ts 0) (xh f.ts 1):=by
 cases f with
 |mk k op n ts bs l =>
  have h:3<=k/\k<=9:=h;rw[GJ,IE (by omega),IE (by omega),IE (by omega),IE (by omega),IE (by omega),IE (by omega),Hv (by omega)];rfl
theorem ce {s:Sc}{w:IU Pl}{k n:Int}{bs:IU Bd}{x:Fm}{env:IU Ev}(h:14<=k):(E1 k [] n [] bs [x]).sem s w env=aY k n ((zg s bs).countP λt=>Fh s w [x] 0 (env++yo bs t)) (zg s bs).length:=by rw[GJ,IE (by omega),IE (by omega),IE (by omega),IE (by omega),IE (by omega),IE (by omega),IE (by omega)]
theorem sS {p q:Prop}{i1:Decidable p}{i2:Decidable q}(h:p↔q):[IL (@decide p i1)]=[IL (@decide q i2)]:=by rw[decide_eq_decide.2 h]
theorem yr {α:Type}{l:IU α}{i:Nat}{z:α}(h:l[i]? = some z):l.take (i+1)=l.take i++[z]:=by rw[GN,h];rfl
section
variable {G:Nat->IQ (IU D)}
def qa (a:Sc) (b:IU Pl) (c:Fm) (d:IU Ev):IU D:=[IL (GJ a b c d)]
def h91q15:IU Sh:=[HX .i64,HI,HX .i64,HK,HK,HK]
def aU (a:Fm):D:=zr h91q15 (IT HV (Hz a)) (IJ 0)
def cd (a:Fm):Prop:=(0:Int)<=0/\(IT HV (Hz a))[IJ 0]? = some (aU a)
def kJ (a:Sc):D:=Hd [.sl (IT H9 (Hk a)),.sl (IT H8 (Hg a)),.sl (IT Hy (Hi a)),.sl (IT Hx (Hh a)),.sl (IT H7 (Hn a))]
def Xf (a:IU Pl):D:=Hd [.sl (IT H6 a)]
def fO (a:Sc) (b:IU Pl) (c:IU Ev) (d:Fm):IU D:=[kJ a,Xf b,.sl (IT HO c),aU d]
def sR (a:IU D) (b:Bool):Prop:=a=[IL b]
def S8 (a:Fm):Prop:=(0:Int)<=1/\(IT HV (Hz a))[IJ 1]? = some (zr h91q15 (IT HV (Hz a)) (IJ 1))
def S9 (a:Sc) (b:IU Pl) (c:IU Ev) (d:Fm):IU D:=[kJ a,Xf b,.sl (IT HO c),zr h91q15 (IT HV (Hz d)) (IJ 1)]
def Xe (a:Nat) (b:Sc) (c:Fm):Prop:=a<=IR (zg b (HN c))
def nj (a:Sc) (b:IU Pl) (c:Fm) (d:IU Ev) (e:Nat):Int:=(↑(zyD (λ(t:IU Int)=>Fh a b (Hz c) 0 (d++yo (HN c) t)) (HZ e (zg a (HN c)))):Int)
def aT (a:Sc) (b:IU Pl) (c:Fm):Prop:=(IT H9 (Hk a)=IT H9 (Hk a)/\IT H8 (Hg a)=IT H8 (Hg a)/\IT Hy (Hi a)=IT Hy (Hi a)/\IT Hx (Hh a)=IT Hx (Hh a)/\IT H7 (Hn a)=IT H7 (Hn a)/\IN)/\(IT H6 b=IT H6 b/\IN)/\(Hj c=Hj c/\HE c=HE c/\HB c=HB c/\IT Hq (HM c)=IT Hq (HM c)/\IT ID (HN c)=IT ID (HN c)/\IT HV (Hz c)=IT HV (Hz c)/\IN)/\IN
def PO (a:IU D) (b:Nat):D:=II (Gl (IB (z1 a (IJ (b:Int)) 0) default))
def PN (a:Nat) (b:Nat):Prop:=Hr .i64 ((a:Int)+1)=(b:Int)/\IN
theorem h91 (s:Sc) (w:IU Pl) (f:Fm) (hs:s.Fits):∀env:IU Ev,Pre s w env f->IK Tryz.prog G 91 [s.d,xl w,.sl (env.map HO),f.d] (· = [.bool (f.sem s w env)]):=by
 induction f using Ex with
 |h f ih =>
 intro env hp;have h142:=λha=>h142 (G:=G) s w env f hs ha hp;have h90:=λbs h1 h2=>h90 (G:=G) s bs hs h1 h2;have h92:=λbs t h1 h2 h3=>h92 (G:=G) env bs t h1 h2 h3;rw[zj,zO]at *;rw[yf f]at *;refine zu (LL [(19,ze (α:=Nat) Tryz.prog G L0 0 (z8 (z6 Tryz.f91) 0) [2,4,5,7,9] (λx=>x<=(zg s f.bs).length) (λx=>(zg s f.bs).length - x) (λx=>[(10,.d (.int .i64 (((zg s f.bs).take x).countP λt=>Fh s w f.l 0 (env++yo f.bs t):Nat))),(11,.d (.int .i64 x))]) (λH _=>H))]) Tryz.func91 ⟨_,rfl⟩ (zt zz) ?_;apply @z7 _ (((Hj f==1)=true->[IL true]=qa s w f env)/\((Hj f==1)=false->((Hj f==2)=true->[IL false]=qa s w f env)/\((Hj f==2)=false->((Hj f==10)=true->cd f/\IK Tryz.prog G 91 (fO s w env f) λ(rs:IU D)=>∃(b:Bool),sR rs b/\[IL !b]=qa s w f env)/\((Hj f==10)=false->((Hj f==11)=true->cd f/\IK Tryz.prog G 91 (fO s w env f) λ(rs:IU D)=>∃(b:Bool),sR rs b/\(b=true->S8 f)/\IK Tryz.prog G 91 (S9 s w env f) λ(rs:IU D)=>∃(b_1:Bool),sR rs b_1/\[IL (bif b then b_1 else false)]=qa s w f env)/\((Hj f==11)=false->((Hj f==12)=true->cd f/\IK Tryz.prog G 91 (fO s w env f) λ(rs:IU D)=>∃(b:Bool),sR rs b/\(b=false->S8 f)/\IK Tryz.prog G 91 (S9 s w env f) λ(rs:IU D) =>∃(b_1:Bool),sR rs b_1/\[IL (bif b then true else b_1)]=qa s w f env)/\((Hj f==12)=false->((Hj f==13)=true->cd f/\IK Tryz.prog G 91 (fO s w env f) λ(rs:IU D)=>∃(b:Bool),sR rs b/\((!b)=false->S8 f)/\IK Tryz.prog G 91 (S9 s w env f) λ(rs:IU D)=>∃(b_1:Bool),sR rs b_1/\[IL (bif !b then true else b_1)]=qa s w f env)/\((Hj f==13)=false->(decide (Hj f<14)=true->IK Tryz.prog G 142 [kJ s,Xf w,.sl (IT HO env),.agg [.int .i64 (Hj f),.str (HE f),.int .i64 (HB f),.sl (IT Hq (HM f)),.sl (IT ID (HN f)),.sl (IT HV (Hz f))]] λ(rs:IU D)=>∃(b:Bool),sR rs b/\[IL b]=qa s w f env)/\(decide (Hj f<14)=false->IK Tryz.prog G 90 [kJ s,.sl (IT ID (HN f))] λ(rs: IU D)=>∃(l:IU D),rs=[II l]/\∃(x0:Nat),Xe x0 s f/\((IT HO env=IT HO env/\IA 0 0=IA 0 0/\IA 1 0=IA 1 0/\IA 2 0=IA 2 0/\l=l/\0=nj s w f env x0/\(0:Int)=(x0:Int)/\IN)/\aT s w f)/\∀(x:Nat),Xe x s f->(decide ((x:Int)<(↑(IR l):Int))=true->((0:Int)<=(x:Int)/\l[IJ (x:Int)]? = some (PO l x))/\cd f/\IK Tryz.prog G 92 [II (IT HO env),.sl (IT ID (HN f)),PO l x] λ(rs:IU D)=>∃(l_1:IU D),rs=[II l_1]/\IK Tryz.prog G 91 [kJ s,Xf w,.sl l_1,aU f] λ(rs:IU D)=>∃(b:Bool),sR rs b/\(b=true->∃(y:Nat),Xe y s f/\IR (zg s (HN f)) - y<IR (zg s (HN f)) - x/\(IT HO env=IT HO env/\IA 0 0=IA 0 0/\IA 1 0=IA 1 0/\IA 2 0=IA 2 0/\l=l/\Hr .i64 (nj s w f env x+1)=nj s w f env y/\PN x y)/\aT s w f)/\(b=false->∃(y:Nat),Xe y s f/\IR (zg s (HN f)) - y<IR (zg s (HN f)) - x/\(IT HO env=IT HO env/\IA 0 0=IA 0 0/\IA 1 0=IA 1 0/\IA 2 0=IA 2 0/\l=l/\nj s w f env x=nj s w f env y/\PN x y)/\aT s w f))/\(decide ((x:Int)<(↑(IR l):Int))=false->((Hj f==14)=true->[IL (nj s w f env x==(↑(IR l):Int))]=qa s w f env)/\((Hj f==14)=false->((Hj f==15)=true->[IL (decide (nj s w f env x>0))]=qa s w f env)/\((Hj f==15)=false->((Hj f==16)=true->[IL (decide (nj s w f env x>=HB f))]=qa s w f env)/\((Hj f==16)=false->[IL (decide (nj s w f env x<=HB f))]=qa s w f env))))))))))))
 ·kernel_rfl
 delta qa cd aU h91q15 fO kJ Xf sR S8 S9 Xe nj aT PO PN;have b1:∀(k n:Int),(k==n)=true↔k=n:=λk n=>beq_iff_eq;have b2:∀(k n:Int),(k==n)=false↔ ¬ k=n:=λk n=>by rw[←C6,beq_iff_eq]
 have hlen:=hp.len;have hsh:=kK (vx hp.form);rcases hsh with⟨k,hk,rfl⟩|hk|⟨x,hx,rfl⟩|⟨k,x,y,hk,hx,hy,rfl⟩|⟨k,n,bs,x,hk,hx,rfl⟩
 ·dsimp only[Hj];rcases hk with rfl|rfl
  ·exact⟨λ_=>by rw[GJ,Hv rfl],λh=>Hu rfl ((b2 _ _).1 h)⟩
  ·exact⟨λh=>Hu ((b1 _ _).1 h) (by decide),λ_=>⟨λ_=>by rw[GJ,IE (by decide),Hv rfl],λh=>Hu rfl ((b2 _ _).1 h)⟩⟩
 ·have ha:zC f.kind=true:=by unfold zC;simp;omega
  refine⟨λh=>Hu ((b1 _ _).1 h) (by omega),λ_=>⟨λh=>Hu ((b1 _ _).1 h) (by omega),λ_=>⟨λh=>Hu ((b1 _ _).1 h) (by omega),λ_=>⟨λh=>Hu ((b1 _ _).1 h) (by omega),λ_=>⟨λh=>Hu ((b1 _ _).1 h) (by omega),λ_=>⟨λh=>Hu ((b1 _ _).1 h) (by omega),λ_=>⟨λ_=>(h142 ha).use ⟨_,rfl,?_⟩,λh=>Hu (of_decide_eq_false h) (by omega)⟩⟩⟩⟩⟩⟩⟩;rw[Xg hk]
 ·dsimp only[Hj,Hz];refine⟨λh=>Hu ((b1 _ _).1 h) (by decide),λ_=>⟨λh=>Hu ((b1 _ _).1 h) (by decide),λ_=>⟨λ_=>?_,λh=>Hu rfl ((b2 _ _).1 h)⟩⟩⟩;rw[Ms];refine⟨⟨by decide,rfl⟩,(ih x (by simp[Hz]) env (S7 hs hx hp)).use ⟨_,rfl,?_⟩⟩;cases hX:GJ s w x env<;>simp[GJ,Fh,hX]
 ·obtain⟨px,py⟩:=ip hs hk hx hy hp;have ix:=ih x (by simp[Hz]) env px;have iy:=ih y (by simp[Hz]) env py;dsimp only[Hj,Hz];rw[Ms,KV];have v0:0<=(0:Int)/\(IT HV [x,y])[IJ 0]? = some x.d:=⟨by decide,rfl⟩;have v1:0<=(1:Int)/\(IT HV [x,y])[IJ 1]? = some y.d:=⟨by decide,rfl⟩;rcases hk with rfl|rfl|rfl
  ·refine⟨λh=>Hu ((b1 _ _).1 h) (by decide),λ_=>⟨λh=>Hu ((b1 _ _).1 h) (by decide),λ_=>⟨λh=>Hu ((b1 _ _).1 h) (by decide),λ_=>⟨λ_=>⟨v0,ix.use ⟨_,rfl,λ_=>v1,iy.use ⟨_,rfl,?_⟩⟩⟩,λh=>Hu rfl ((b2 _ _).1 h)⟩⟩⟩⟩;cases hX:GJ s w x env<;>cases hY:GJ s w y env<;>simp[GJ,Fh,hX,hY]
  ·refine⟨λh=>Hu ((b1 _ _).1 h) (by decide),λ_=>⟨λh=>Hu ((b1 _ _).1 h) (by decide),λ_=>⟨λh=>Hu ((b1 _ _).1 h) (by decide),λ_=>⟨λh=>Hu ((b1 _ _).1 h) (by decide),λ_=>⟨λ_=>⟨v0,ix.use ⟨_,rfl,λ_=>v1,iy.use ⟨_,rfl,?_⟩⟩⟩,λh=>Hu rfl ((b2 _ _).1 h)⟩⟩⟩⟩⟩;cases hX:GJ s w x env<;>cases hY:GJ s w y env<;>simp[GJ,Fh,hX,hY]
  ·refine⟨λh=>Hu ((b1 _ _).1 h) (by decide),λ_=>⟨λh=>Hu ((b1 _ _).1 h) (by decide),λ_=>⟨λh=>Hu ((b1 _ _).1 h) (by decide),λ_=>⟨λh=>Hu ((b1 _ _).1 h) (by decide),λ_=>⟨λh=>Hu ((b1 _ _).1 h) (by decide),λ_=>⟨λ_=>⟨v0,ix.use ⟨_,rfl,λ_=>v1,iy.use ⟨_,rfl,?_⟩⟩⟩,λh=>Hu rfl ((b2 _ _).1 h)⟩⟩⟩⟩⟩⟩;cases hX:GJ s w x env<;>cases hY:GJ s w y env<;>simp[GJ,Fh,hX,hY]
 ·obtain⟨hmany,hpre⟩:=cf hs hk.1 hx hp;have hw:=(E1 k [] n [] bs [x]).wt_eq;simp only[HN]at hw;have hbl:bs.length<1099511627776:=by omega
  have hT:(zg s bs).length<=1048577:=by
   have hm:=yW hs (c:=2097152) (by decide) bs;rcases Ce hm.1 with h0|h0
   ·have:=ls hs (c:=2097152) (by decide) h0 (by omega) bs.length (GE _);rw[FR]at this;omega
   ·rw[pj h0.symm];decide
  have hsem:=ce (s:=s) (w:=w) (k:=k) (n:=n) (bs:=bs) (x:=x) (env:=env) hk.1;dsimp only[Hj,Hz,HN,HB,HM,HE];refine⟨λh=>Hu ((b1 _ _).1 h) (by omega),λ_=>⟨λh=>Hu ((b1 _ _).1 h) (by omega),λ_=>⟨λh=>Hu ((b1 _ _).1 h) (by omega),λ_=>⟨λh=>Hu ((b1 _ _).1 h) (by omega),λ_=>⟨λh=>Hu ((b1 _ _).1 h) (by omega),λ_=>⟨λh=>Hu ((b1 _ _).1 h) (by omega),λ_=>⟨λh=>Hu (G0 h) (by omega),λ_=>(h90 bs hbl hmany).use ⟨_,rfl,0,GD _,⟨⟨rfl,rfl,rfl,rfl,rfl,by simp,rfl,trivial⟩,⟨rfl,rfl,rfl,rfl,rfl,trivial⟩,⟨rfl,trivial⟩,⟨rfl,rfl,rfl,rfl,rfl,rfl,trivial⟩,trivial⟩,λy hy=>⟨λhlt=>?_,λhge=>?_⟩⟩⟩⟩⟩⟩⟩⟩⟩
  ·simp only[H4,HS]at hlt;obtain⟨t,ht,hm⟩:=zw (l:=zg s bs) (x:=y) (by omega);have htl:=u9 hm;have el:Gl (IB (some (II (t.map intD))) default)=t.map intD:=rfl;have hc:zyD (λt=>Fh s w [x] 0 (env++yo bs t)) (HZ y (zg s bs))<=1048577:=EN C3 (by rw[FS];omega);have hs1:Fh s w [x] 0 (env++yo bs t)=GJ s w x (env++yo bs t):=by rw[Fh]
   have five:∀{a1 a2 a3 a4 a5:IU D},(a1=a1/\a2=a2/\a3=a3/\a4=a4/\a5=a5/\IN):=⟨rfl,rfl,rfl,rfl,rfl,trivial⟩;rw[HF,lp ht,el,Ms];refine⟨⟨by omega,aa ht⟩,⟨by decide,rfl⟩,(h92 bs t (by omega) hbl (by omega)).use ⟨_,rfl,(ih x (by simp[Hz]) _ (hpre t hm)).use ⟨_,rfl,λhb=>⟨y+1,by omega,by omega,⟨rfl,rfl,rfl,rfl,rfl,?_,by rw[zx (by omega) (by omega)];rfl,trivial⟩,⟨rfl,rfl,rfl,rfl,rfl,trivial⟩,⟨rfl,trivial⟩,⟨rfl,rfl,rfl,rfl,rfl,rfl,trivial⟩,trivial⟩,λhb=>⟨y+1,by omega,by omega,⟨rfl,rfl,rfl,rfl,rfl,?_,by rw[zx (by omega) (by omega)];rfl,trivial⟩,⟨rfl,rfl,rfl,rfl,rfl,trivial⟩,⟨rfl,trivial⟩,⟨rfl,rfl,rfl,rfl,rfl,rfl,trivial⟩,trivial⟩⟩⟩⟩
   ·rw[zx (by omega) (by omega),yr ht,Ba,B1,Ac,hs1,hb];rfl
   ·rw[yr ht,Ba,B1,Ac,hs1,hb];rfl
  ·simp only[H4,HH]at hge;have htk:HZ y (zg s bs)=zg s bs:=Gs (by omega);rw[hsem];unfold aY;refine⟨λh=>?_,λh14=>⟨λh=>?_,λh15=>⟨λh=>?_,λh16=>?_⟩⟩⟩
   ·rw[Hv ((b1 _ _).1 h),htk];congr 2;rw[Ge,beq_iff_eq,beq_iff_eq,H4];omega
   ·rw[IE ((b2 _ _).1 h14),Hv ((b1 _ _).1 h)];exact sS (by rw[htk];omega)
   ·rw[IE ((b2 _ _).1 h14),IE ((b2 _ _).1 h15),Hv ((b1 _ _).1 h)];exact sS (by rw[htk])
   ·rw[IE ((b2 _ _).1 h14),IE ((b2 _ _).1 h15),IE ((b2 _ _).1 h16)];exact sS (by rw[htk])
end
structure In where
 rule:Int
 binds:IU Int
def In.d (x:In):D:= .agg [.int .i64 x.rule,.sl (x.binds.map intD),.int .i64 0,.int .i64 0,.int .i64 0,.sl []]
def aS (s:Sc) (w:IU Pl) (r:Ru) (i:Nat) (ts:IU (IU Int)):IU In:=(ts.filter λt=>!r.body.sem s w (yo r.each t)).map λt=>⟨i,t⟩
def yO (s:Sc) (w:IU Pl):IU Ru->Nat->IU In
 |[],_=>[]
 |r::q,i=>aS s w r i (zg s r.each)++yO s w q (i+1)
def oF (s:Sc) (w:IU Pl) (l:IU Ru) (i k:Nat):IU In :=yO s w (l.take i) 0++(match l[i]? with|some r=>aS s w r i ((zg s r.each).take k)|none=>[])
def ln (s:Sc) (l:IU Ru) (i:Nat):IU (IU Int):=match l[i]? with|some r=>zg s r.each|none=>[]
def zE (s:Sc) (w:IU Pl) (l:IU Ru):Int:=if y4 s w≠0 then y4 s w else if(xn l).2≠0 then(xn l).2 else if xF s l 0 0 then 2 else 0
def zh (s:Sc) (w:IU Pl) (l:IU Ru):IU In:=if zE s w l=0 then yO s w l 0 else []
theorem rules_ok:∀(l:IU Ru) (seen:IU Nm) (i:Nat),(rulesT seen i l).2=0->∀r∈l,r.tyI=0
 |[],_,_,_,r,h=>by cases h
 |x::q,seen,i,h,r,hr=>by
  rw[rulesT]at h;by_cases h1:x.tyI=0
  ·rw[IE (by simp[h1])]at h;by_cases h2:seen.contains x.name=true
   ·rw[Hv h2]at h;cases h
   ·rw[IE h2]at h;rcases F5.1 hr with rfl|hr
    ·exact h1
    ·exact rules_ok q _ _ h r hr
  ·rw[Hv h1]at h;exact Hu h h1
theorem PM {r:Ru}(h:r.tyI=0):r.body.formB=true/\r.body.ty r.each=0/\r.each.length<=6:=by
 unfold Ru.tyI at h;split at h
 ·cases h
 ·rename_i h1;split at h
  ·rename_i h2;exact Hu h h2
  ·rename_i h2;split at h
   ·refine⟨s8 (by simpa using h2),h,?_⟩;simp at h1;exact h1.2.2.1
   ·cases h
def kI (s:Sc):IU Ru->Int
 |[]=>0
 |r::q=>zR 2097152 s r.each+kI s q
theorem aR {s:Sc}(hs:s.Fits):∀l,0<=kI s l
 |[]=>DG _
 |r::q=>by have:=yW hs (c:=2097152) (by decide) r.each;have:=aR hs q;rw[kI];omega
theorem kH {s:Sc}(hs:s.Fits):∀l x,kI s (l.take x)<=kI s l
 |[],x=>by simp
 |r::q,0=>by have:=aR hs (r::q);simpa[kI]using this
 |r::q,x+1=>by have:=kH hs q x;rw[FM,kI,kI];omega
theorem lm {s:Sc}(hs:s.Fits):∀(l:IU Ru) (n b:Int),xF s l n b=false->0<=n->0<=b->n+kI s l<=4096/\b<=1048576/\∀r∈l,zR 2097152 s r.each<=4096/\zR 2097152 s r.each*r.body.broad 2097152 s<=1048576
 |[],n,b,h,hn,hb=>by simp[xF]at h;exact⟨by rw[kI];omega,h.2,λr hr=>by cases hr⟩
 |x::q,n,b,h,hn,hb=>by
  have h1:=yW hs (c:=2097152) (by decide) x.each;have h2:=xD hs (c:=2097152) (by decide) x.body;have h3:=DK h1.1 h2.1;rw[xF]at h;by_cases hg:zR 2097152 s x.each>4096
  ·rw[Hv hg]at h;cases h
  ·rw[IE hg]at h;obtain⟨i1,i2,i3⟩:=lm hs q _ _ h (yx (by decide) (by omega)).1 (yx (by decide) (by omega)).1;have h4:=aR hs q;have h5:=tt (m:=4096) (show zF 2097152 (n+zR 2097152 s x.each)<=4096 by omega) (by decide);have h6:=tt i2 (by decide);have h7:zF 2097152 (n+zR 2097152 s x.each)=n+zR 2097152 s x.each:=by unfold zF;rw[IE (by omega)]
   rw[h7]at i1;refine⟨by rw[kI];omega,by omega,λr hr=>?_⟩;rcases F5.1 hr with rfl|hr
   ·exact⟨by omega,by omega⟩
   ·exact i3 r hr
theorem fN {s:Sc}(hs:s.Fits) {bs:IU Bd}(h:zR 2097152 s bs<2097152):((zg s bs).length:Int)=zR 2097152 s bs:=by
 have hm:=yW hs (c:=2097152) (by decide) bs;rcases Ce hm.1 with h0|h0
 ·have:=ls hs (c:=2097152) (by decide) h0 h bs.length (GE _);rwa [FR]at this
 ·rw[pj h0.symm,←h0];rfl
theorem fM (s:Sc) (w:IU Pl) (r:Ru) (i:Nat) (ts:IU (IU Int)):(aS s w r i ts).length<=ts.length:=by unfold aS;rw[H4];exact IU.length_filter_le _ _
theorem q8 {s:Sc}(hs:s.Fits) (w:IU Pl):∀(l:IU Ru) (i:Nat),(∀r∈l,zR 2097152 s r.each<=4096)->((yO s w l i).length:Int)<=kI s l
 |[],_,_=>DG _
 |r::q,i,h=>by have h1:=q8 hs w q (i+1) λr hr=>h r (zxS _ hr);have h2:=fN hs (bs:=r.each) (by have:=h r Ak;omega);have h3:=fM s w r i (zg s r.each);rw[yO,kI,FG];omega
theorem jW (s:Sc) (w:IU Pl) (r:Ru):∀(l:IU Ru) (j:Nat),yO s w (l++[r]) j=yO s w l j++aS s w r (j+l.length) (zg s r.each)
 |[],j=>by simp[yO]
 |x::q,j=>by
  rw[IU.cons_append,yO,yO,jW s w r q (j+1),DN,F2];have:j+1+q.length=j+(q.length+1):=by omega
  rw[this]
theorem oz {s:Sc}{w:IU Pl}{l:IU Ru}{i:Nat}{r:Ru}(h:l[i]? = some r) (k:Nat):oF s w l i k=yO s w (l.take i) 0++aS s w r i ((zg s r.each).take k):=by unfold oF;rw[h]
theorem kG {s:Sc}{w:IU Pl}{l:IU Ru}{i:Nat}{r:Ru}(h:l[i]? = some r):oF s w l i 0=yO s w (l.take i) 0:=by rw[oz h];simp[aS]
theorem cb {s:Sc}{w:IU Pl}{l:IU Ru}{i k:Nat}{r:Ru}(h:l[i]? = some r) (hk:(zg s r.each).length<=k):oF s w l i k=yO s w (l.take (i+1)) 0:=by
 have hi:i<l.length:=by rcases G4 i l.length with h1|h1;exact h1;rw[Gt h1]at h;cases h
 rw[oz h,Gs hk,yr h,jW,FS,Nat.zero_add,Nat.min_eq_left (by omega)]
theorem cZ {s:Sc}{w:IU Pl}{l:IU Ru}{i k:Nat}{r:Ru}{t:IU Int}(h:l[i]? = some r) (ht:(zg s r.each)[k]? = some t):oF s w l i (k+1)=oF s w l i k++(if r.body.sem s w (yo r.each t)then []else [⟨i,t⟩]):=by rw[oz h,oz h,DN,yr ht];congr 1;unfold aS;rw[IU.filter_append,GI];congr 1;cases hb:r.body.sem s w (yo r.each t)<;>simp[hb]
theorem Xd (l:IU In):yH (l.map In.d) 6=true:=by unfold yH;rw[G3];intro d hd;obtain⟨x,_,rfl⟩:=Gd.1 hd;rfl
section
variable {G:Nat->IQ (IU D)}
def fL (a:Sc):D:=Hd [.sl (IT H9 (Hk a)),.sl (IT H8 (Hg a)),.sl (IT Hy (Hi a)),.sl (IT Hx (Hh a)),.sl (IT H7 (Hn a))]
def Sz (a:Sc) (b:IU Pl) (c:IU Ru):IU D:=[II (IT In.d (zh a b c)),.int .i64 (zE a b c)]
def PL (a:Int) (b:Sc) (c:IU Pl) (d:IU Ru):Prop:=[II [],.int .i64 a]=Sz b c d
def kF (a:IU Ru):Prop:=IT Hm a=IT Hm a
def h48q13:Prop:=IA 0 0=IA 0 0
def h48q10:Prop:=IA 1 0=IA 1 0
def fK (a:Sc) (b:IU Pl) (c:Nat) (d:IU Ru):IU D:=IT In.d (yO a b (HZ c d) 0)
def cY (a:Sc):Prop:=IT H9 (Hk a)=IT H9 (Hk a)/\IT H8 (Hg a)=IT H8 (Hg a)/\IT Hy (Hi a)=IT Hy (Hi a)/\IT Hx (Hh a)=IT Hx (Hh a)/\IT H7 (Hn a)=IT H7 (Hn a)/\IN
def kE (a:IU Pl):Prop:=IT H6 a=IT H6 a/\IN
def Ve (a:Nat) (b:IU Ru):Bool:=decide ((a:Int)<(↑(IR (IT Hm b)):Int))
def aQ (a:Nat) (b:IU Ru):Prop:=(0:Int)<=(a:Int)/\(IT Hm b)[IJ (a:Int)]? = some (zr [HI,EL,HX .i64,HK,HX .i64,HI,HX .i64,HK,HK,HK] (IT Hm b) (IJ (a:Int)))
def PK (a:IU Ru) (b:Nat):D:=II (Gl (IB (z1 (IT Hm a) (IJ (b:Int)) (0+1+1+1)) default))
def Xc (a:Nat) (b:Sc) (c:IU Ru) (d:Nat):Prop:=a<=IR (ln b c d)
def ni (a:Sc) (b:IU Pl) (c:IU Ru) (d:Nat) (e:Nat):IU D:=IT In.d (oF a b c d e)
def m7 (a:Sc) (b:IU Pl) (c:IU Ru) (d:Nat) (e:Nat):Nat:=IR (oF a b c d e)
def Sy (a:IU D) (b:Nat):D:=II (Gl (IB (z1 a (IJ (b:Int)) 0) default))
def Vd (a:Nat) (b:IU D):Prop:=(0:Int)<=(a:Int)/\b[IJ (a:Int)]? = some (Sy b a)
def Vc (a:IU D) (b:Nat) (c:Nat):IU D:=G6 [Hd (G6 [II [],.int .i64 0,.int .i64 0,.int .i64 0,(λ(x:Sh×Nat)=>match x with|(sh,j)=>GP sh (IB (z1 a (IJ (b:Int)) j) default)) (HK,0),.int .i64 (c:Int)])]
def PJ (a:Nat) (b:Nat):Prop:=Hr .i64 ((a:Int)+1)=(b:Int)/\IN
def PI (a:Nat) (b:IU D) (c:Nat) (d:Nat):Prop:=(a:Int)=(a:Int)/\b=b/\PJ c d
theorem h48 (s:Sc) (w:IU Pl) (l:IU Ru) (hs:s.Fits) (hwl:w.length<1099511627776) (hl:l.length<1099511627776) (hw:rwts l<1099511627776):IK Tryz.prog G 48 [s.d,xl w,.sl (l.map Hm)] (· = [.sl ((zh s w l).map In.d),.int .i64 (zE s w l)]):=by
 have h53:=h53 (G:=G) s w hs hwl;have h89:=g19 (G:=G) l hl hw;have h46:=h46 (G:=G) s l hs hl hw;have h90:=λbs h1 h2=>h90 (G:=G) s bs hs h1 h2;have h91:=λf env h=>h91 (G:=G) s w f hs env h;have h92:=λbs t h1 h2 h3=>h92 (G:=G) [] bs t h1 h2 h3;rw[zj,zO]at *;refine zu (LL [(11,xH (α:=Nat) Tryz.prog G (λi=>LL [(15,ze (α:=Nat) Tryz.prog G L0 0 (z8 (z8 (z6 Tryz.f48) 0) 0) [2,3,4,12,13] (λk=>k<=(ln s l i).length) (λk=>(ln s l i).length - k) (λk=>[(11,.vec 2 ((oF s w l i k).map In.d)),(14,.d (.int .i64 k))]) (λH k=>[H.getD 0 .dead,H.getD 1 .dead,.vec (oF s w l i k).length 6]))]) 0 (z8 (z6 Tryz.f48) 0) [2,3,4] (λx=>x<=l.length) (λx=>l.length - x) (λx=>[(11,.vec 2 ((yO s w (l.take x) 0).map In.d)),(12,.d (.int .i64 x))]) (λH x=>[H.getD 0 .dead,H.getD 1 .dead,.vec (yO s w (l.take x) 0).length 6]))]) Tryz.func48 ⟨_,rfl⟩ (zt (zA mixed (λ_=>zt zz))) ?_;apply @z7 _ (IK Tryz.prog G 53 [fL s,.agg [.sl (IT H6 w)]] λ(rs:IU D)=>∃(n:Int),rs=[IP .i64 n]/\((n != 0)=true->PL n s w l)/\((n != 0)=false->IK Tryz.prog G 89 [II (IT Hm l)] λ(rs:IU D)=>∃(n:Int)(n_1:Int),rs=[IP .i64 n,.int .i64 n_1]/\((n_1 != 0)=true->PL n_1 s w l)/\((n_1 != 0)=false->IK Tryz.prog G 46 [fL s,.sl (IT Hm l)] λ(rs:IU D)=>∃(b:Bool),rs=[IL b]/\(b=true->[II [],.int .i64 2]=Sz s w l)/\(b=false->∃(x0:Nat),x0<=IR l/\((kF l/\h48q13/\h48q10/\([]=fK s w x0 l/\IR ([]:IU D)<=IR (yO s w (HZ x0 l) 0))/\(0:Int)=(x0:Int)/\IN)/\cY s/\kE w/\IN)/\∀(x:Nat),x<=IR l->(Ve x l=true->aQ x l/\IK Tryz.prog G 90 [fL s,PK l x] λ(rs:IU D)=>∃ (l_1:IU D),rs=[II l_1]/\∃(x0:Nat),Xc x0 s l x/\((kF l/\h48q13/\h48q10/\fK s w x l=ni s w l x x0/\(x:Int)=(x:Int)/\l_1=l_1/\(0:Int)=(x0:Int)/\IN)/\cY s/\kE w/\IR (yO s w (HZ x l) 0)=m7 s w l x x0/\IN)/\∀(x_1:Nat),Xc x_1 s l x->(decide ((x_1:Int)<(↑(IR l_1):Int))=true->aQ x l/\Vd x_1 l_1/\aQ x l/\IK Tryz.prog G 92 [II [],PK l x,Sy l_1 x_1] λ(rs:IU D)=>∃(l_2:IU D),rs=[II l_2]/\IK Tryz.prog G 91 [fL s,.agg [.sl (IT H6 w)],.sl l_2,.agg [.int .i64 (Hf (IB (z1 (IT Hm l) (IJ (x:Int)) (0+1+1+1+1)) default)),.str (Gc (IB (z1 (IT Hm l) (IJ (x:Int)) (0+1+1+1+1+1)) default)),.int .i64 (Hf (IB (z1 (IT Hm l) (IJ (x:Int)) (0+1+1+1+1+1+1)) default)),.sl (Gl (IB (z1 (IT Hm l) (IJ (x:Int)) (0+1+1+1+1+1+1+1)) default)),.sl (Gl (IB (z1 (IT Hm l) (IJ (x:Int)) (0+1+1+1+1+1+1+1+1)) default)),.sl (Gl (IB (z1 (IT Hm l) (IJ (x:Int)) (0+1+1+1+1+1+1+1+1+1)) default))]] λ(rs:IU D)=>∃(b:Bool),rs=[IL b]/\((!b)=true->Vd x_1 l_1/\(m7 s w l x x_1=IR (ni s w l x x_1)/\6=6/\FA (ni s w l x x_1) [Hd [.int .i64 (x:Int),Sy l_1 x_1,.int .i64 0,.int .i64 0,.int .i64 0,.sl []]] (nat_lit 6) (nat_lit 80))/\∃(y:Nat),Xc y s l x/\IR (ln s l x) - y<IR (ln s l x) - x_1/\(kF l/\h48q13/\h48q10/\ni s w l x x_1++Vc l_1 x_1 x = ni s w l x y/\PI x l_1 x_1 y)/\cY s/\kE w/\IR (ni s w l x x_1)+IR (Vc l_1 x_1 x)=m7 s w l x y/\IN)/\((!b)=false->∃(y:Nat),Xc y s l x/\IR (ln s l x) - y<IR (ln s l x) - x_1/\(kF l/\h48q13/\h48q10/\ni s w l x x_1=ni s w l x y/\PI x l_1 x_1 y)/\cY s/\kE w/\m7 s w l x x_1=m7 s w l x y/\IN))/\(decide ((x_1:Int)<(↑(IR l_1):Int))=false->∃(y:Nat),y<=IR l/\IR l - y<IR l - x/\(kF l/\h48q13/\h48q10/\ni s w l x x_1=fK s w y l/\PJ x y)/\cY s/\kE w/\m7 s w l x x_1=IR (yO s w (HZ y l) 0)/\IN))/\(Ve x l=false->[II (fK s w x l),.int .i64 0]=Sz s w l)))))
 ·kernel_rfl
 delta fL PL Sz kF h48q13 h48q10 fK cY kE Ve aQ PK Xc ni m7 Vd Sy Vc PI PJ;have five:∀{A B C E F:IU D},(A=A/\B=B/\C=C/\E=E/\F=F/\IN):=⟨rfl,rfl,rfl,rfl,rfl,trivial⟩;have nil0:zE s w l≠0->IT In.d (zh s w l)=[]:=λh=>by unfold zh;rw[IE h];rfl
 refine h53.use ⟨_,rfl,λh=>?_,λh1=>h89.use ⟨_,_,rfl,λh=>?_,λh2=>h46.use ⟨_,rfl,λh=>?_,λh3=>?_⟩⟩⟩
 ·have h':y4 s w≠0:=by simpa using h
  have he:zE s w l=y4 s w:=by unfold zE;rw[Hv h']
  rw[nil0 (by rw[he];exact h'),he]
 ·have h1':y4 s w=0:=by simpa using h1
  have h':(xn l).2≠0:=by simpa using h
  have he:zE s w l=(xn l).2:=by unfold zE;rw[IE (by simp[h1']),Hv h']
  rw[nil0 (by rw[he];exact h'),he]
 ·have h1':y4 s w=0:=by simpa using h1
  have h2':(xn l).2=0:=by simpa using h2
  have he:zE s w l=2:=by unfold zE;rw[IE (by simp[h1']),IE (by simp[h2']),Hv h]
  rw[nil0 (by rw[he];decide),he]
 have h1':y4 s w=0:=by simpa using h1
 have h2':(xn l).2=0:=by simpa using h2
 have he:zE s w l=0:=by unfold zE;rw[IE (by simp[h1']),IE (by simp[h2']),h3];rfl
 have hwk:w.length=s.lessons.length:=by
  unfold y4 at h1';split at h1'
  ·rename_i h;exact Hu h1' h
  ·split at h1'
   ·cases h1'
   ·rename_i h;rcases BH (w.length=s.lessons.length)with h4|h4
    ·exact h4
    ·exact Hu (Or.inl h4) h
 obtain⟨g1,-,g3⟩:=lm hs l 0 0 h3 (by decide) (by decide);have hrules:=rules_ok l [] 0 h2';have hall:∀x,(yO s w (l.take x) 0).length<=4096:=λx=>by have:=q8 hs w (l.take x) 0 λr hr=>(g3 r (De hr)).1;have:=kH hs l x;omega
 refine⟨0,GD _,⟨⟨rfl,rfl,rfl,⟨rfl,GD _⟩,rfl,trivial⟩,five,⟨rfl,trivial⟩,trivial⟩,λx hx=>⟨λhlt=>?_,λhge=>?_⟩⟩
 ·simp only[H4,HS]at hlt;obtain⟨r,hr,hm⟩:=zw (l:=l) (x:=x) (by omega);have hty:=PM (hrules r hm);have hg:=g3 r hm;have hT:=fN hs (bs:=r.each) (by omega);have hta:ln s l x=zg s r.each:=by unfold ln;rw[hr]
  have hrw:=rwts_mem hm;have hew:r.each.length<=nq r.each:=by unfold nq;omega
  have hrw2:r.wt=r.name.length+nq r.each+r.body.wt:=rfl;have ei (n:Int):Hf (IB (some (IP .i64 n)) default)=n:=rfl;have es (n:Nm):Gc (IB (some (HW n)) default)=n:=rfl;have el (l:IU D):Gl (IB (some (II l)) default)=l:=rfl;have hkl:∀k,(oF s w l x k).length<=8192:=λk=>by have h5:=fM s w r x ((zg s r.each).take k);have h6:=hall x;rw[oz hr,FG];rw[FS]at h5;omega
  have hv:0<=(x:Int)/\(IT Hm l)[x]? = some r.d:=⟨by omega,by rw[G5,hr];rfl⟩;rw[HF,sX hr,sC hr,sB hr,sA hr,r6 hr,r7 hr,r8 hr,r9 hr,ei,ei,es,el,el,el,el,hta];refine⟨hv,(h90 r.each (by omega) (by omega)).use ⟨_,rfl,0,GD _,⟨⟨rfl,rfl,rfl,by rw[kG hr],rfl,rfl,rfl,trivial⟩,five,⟨rfl,trivial⟩,by rw[kG hr],trivial⟩,λk hk=>⟨λhkl2=>?_,λhkg=>?_⟩⟩⟩
  ·simp only[H4,HS]at hkl2;obtain⟨t,ht,htm⟩:=zw (l:=zg s r.each) (x:=k) (by omega);have htl:=u9 htm;have hpos:1<=zR 2097152 s r.each:=by rw[←hT];omega
   have hbr:=xD hs (c:=2097152) (by decide) r.body;have hpre:Pre s w ([]++yo r.each t) r.body:=by rw[IU.nil_append];refine⟨hty.1,by rw[env_b htl];exact hty.2.1,?_,Vf htm,hwk,by rw[aV htl];omega⟩;have:=zzK hpos hbr.1;omega
   have hsuc:=cZ (s:=s) (w:=w) hr ht;have hh:=h91 r.body _ hpre;rw[yf r.body]at hh;have hv2:0<=(k:Int)/\(IT wz (zg s r.each))[k]? = some (II (t.map intD)):=⟨by omega,aa ht⟩;rw[HF,lp ht,el];refine⟨hv,hv2,hv,(h92 r.each t (by decide) (by omega) (by omega)).use ⟨_,rfl,hh.use ⟨_,rfl,λhb=>⟨hv2,⟨by simp,rfl,?_⟩,k+1,by omega,by omega,⟨rfl,rfl,rfl,?_,rfl,rfl,by rw[zx (by omega) (by omega)];rfl,trivial⟩,five,⟨rfl,trivial⟩,?_,trivial⟩,λhb=>⟨k+1,by omega,by omega,⟨rfl,rfl,rfl,?_,rfl,rfl,by rw[zx (by omega) (by omega)];rfl,trivial⟩,five,⟨rfl,trivial⟩,?_,trivial⟩⟩⟩⟩
   ·have:=Xd (oF s w l x k++[⟨x,t⟩]);have h8:=hkl k;unfold yH at this;exact⟨by simpa[In.d]using this,by simp;omega⟩
   ·rw[hsuc,IE (by simpa using hb),GI];show IT In.d (oF s w l x k)++[Hd [.int .i64 x,GP .sl (IB (z1 (IT wz (zg s r.each)) k 0) default),.int .i64 0,.int .i64 0,.int .i64 0,.sl []]]=_;rw[lp ht];rfl
   ·rw[hsuc,IE (by simpa using hb),FG,H4];rfl
   ·rw[hsuc,Hv (by simpa using hb),D5]
   ·rw[hsuc,Hv (by simpa using hb),D5]
  ·simp only[H4,HH]at hkg;have hf:=cb (s:=s) (w:=w) hr (k:=k) (by omega);refine⟨x+1,by omega,by omega,⟨rfl,rfl,rfl,by rw[hf],by rw[zx (by omega) (by omega)];rfl,trivial⟩,five,⟨rfl,trivial⟩,by rw[hf],trivial⟩
 ·simp only[H4,HH]at hge;unfold zh;rw[Gs (by omega),Hv he,he]
end
open Go.Fo.In renaming d->GZ
def rp (l:IU Ru) (i:Int):Ru:=(l[i.toNat]?).getD ⟨[],false,0,[],.mk 0 [] 0 [] [] []⟩
def xC (l:IU Ru) (b:IU In):Int:=(b.countP λx=>(rp l x.rule).hard:Nat)
def x9 (l:IU Ru) (b:IU In):Int:=(b.map λx=>if(rp l x.rule).hard then 0 else(rp l x.rule).weight).sum
theorem Xb (s:Sc) (w:IU Pl):∀(l:IU Ru) (i:Nat),∀b∈yO s w l i,∃k:Nat,b.rule=((i+k:Nat):Int)/\k<l.length
 |[],_,b,h=>by cases h
 |r::q,i,b,h=>by
  rw[yO,FK]at h;rcases h with h|h
  ·unfold aS at h;obtain⟨t,_,rfl⟩:=Gd.1 h;exact⟨0,rfl,by simp⟩
  ·obtain⟨k,h1,h2⟩:=Xb s w q (i+1) b h;exact⟨k+1,by rw[h1];omega,by simpa using h2⟩
theorem sr {s:Sc}{w:IU Pl}{l:IU Ru}{b:In}(h:b∈zh s w l):∃k:Nat,b.rule=(k:Int)/\k<l.length:=by
 unfold zh at h;split at h
 ·obtain⟨k,h1,h2⟩:=Xb s w l 0 b h;exact⟨k,by rw[h1];omega,h2⟩
 ·cases h
theorem cX {s:Sc}{w:IU Pl}{l:IU Ru}(hs:s.Fits) (h:zE s w l=0):(zh s w l).length<=4096/\∀r∈l,r.tyI=0:=by
 have h0:=h;unfold zE at h;by_cases h1:y4 s w=0
 ·rw[IE (by simp[h1])]at h;by_cases h2:(xn l).2=0
  ·rw[IE (by simp[h2])]at h;cases h3:xF s l 0 0 with
   |true=>rw[h3]at h;cases h
   |false =>
    obtain⟨g1,-,g3⟩:=lm hs l 0 0 h3 (by decide) (by decide);have:=q8 hs w l 0 λr hr=>(g3 r hr).1;refine⟨?_,rules_ok l [] 0 h2⟩;unfold zh;rw[Hv h0];omega
  ·rw[Hv h2]at h;exact Hu h h2
 ·rw[Hv h1]at h;exact Hu h h1
theorem Sw {r:Ru}(h:r.tyI=0):0<=r.weight/\r.weight<=1000:=by
 unfold Ru.tyI at h;split at h
 ·cases h
 ·rename_i h1;simp at h1;have h2:=h1.2.1;unfold rE at h2;split at h2
  ·have:r.weight=0:=by simpa using h2
   omega
  ·simp at h2;omega
theorem aP (l:IU Ru):∀b:IU In,(∀x∈b,0<=(rp l x.rule).weight/\(rp l x.rule).weight<=1000)->0<=x9 l b/\x9 l b<=1000*b.length
 |[],_=>⟨DG _,DG _⟩
 |x::q,h=>by have h1:=aP l q λy hy=>h y (zxS _ hy);have h2:=h x Ak;have h3:x9 l (x::q)=(if(rp l x.rule).hard then 0 else(rp l x.rule).weight)+x9 l q:=rfl;rw[h3,F2];split<;>omega
theorem ow (l:IU Ru) (b:IU In) (x:In):x9 l (b++[x])=x9 l b+(if(rp l x.rule).hard then 0 else(rp l x.rule).weight):=by unfold x9;rw[GI,IU.sum_append];simp
theorem ov (l:IU Ru) (b:IU In) (x:In):xC l (b++[x])=xC l b+(if(rp l x.rule).hard then 1 else 0):=by unfold xC;rw[Ba,B1,Ac];split<;>simp_all
section
variable {l:IU In}{x:In}{i:Nat}
theorem fJ (h:l[i]? = some x):z1 (l.map GZ) i 0=some (.int .i64 x.rule):=by simp[z1,h,GZ,Gq]
theorem PH (h:l[i]? = some x):z1 (l.map GZ) i (0+1)=some (.sl (x.binds.map intD)):=by simp[z1,h,GZ,Gq]
theorem PG (h:l[i]? = some x):z1 (l.map GZ) i (0+1+1)=some (.int .i64 0):=by simp[z1,h,GZ,Gq]
theorem PF (h:l[i]? = some x):z1 (l.map GZ) i (0+1+1+1)=some (.int .i64 0):=by simp[z1,h,GZ,Gq]
theorem PE (h:l[i]? = some x):z1 (l.map GZ) i (0+1+1+1+1)=some (.int .i64 0):=by simp[z1,h,GZ,Gq]
theorem PD (h:l[i]? = some x):z1 (l.map GZ) i (0+1+1+1+1+1)=some (.sl []):=by simp[z1,h,GZ,Gq]
theorem PC (h:l[i]? = some x):zr [.int .i64,.sl,.int .i64,.int .i64,.int .i64,.sl] (l.map GZ) i=x.d:=by simp only[zr,Ew,fJ h,PH h,PG h,PF h,PE h,PD h];rfl
theorem PB (h:l[i]? = some x):(l.map GZ)[i]? = some x.d:=by rw[G5,h];rfl
end
section
variable {G:Nat->IQ (IU D)}
def Vb (a:IU Ru) (b:Sc) (c:IU Pl):IU D:=[IP .i64 (xC a (zh b c a)),.int .i64 (x9 a (zh b c a)),.int .i64 (zE b c a)]
def Xa (a:Nat) (b:Sc) (c:IU Pl) (d:IU Ru):Prop:=a<=IR (zh b c d)/\zE b c d=0
def jV (a:Nat) (b:Sc) (c:IU Pl) (d:IU Ru):IU In:=HZ a (zh b c d)
def fI (a:IU Ru) (b:Nat) (c:Sc) (d:IU Pl):Int:=xC a (jV b c d a)
def Sv (a:Sc) (b:IU Pl):Prop:=(IT H9 (Hk a)=IT H9 (Hk a)/\IT H8 (Hg a)=IT H8 (Hg a)/\IT Hy (Hi a)=IT Hy (Hi a)/\IT Hx (Hh a)=IT Hx (Hh a)/\IT H7 (Hn a)=IT H7 (Hn a)/\IN)/\(IT H6 b=IT H6 b/\IN)/\IN
def PA (a:Nat) (b:IU D):Prop:=(0:Int)<=(a:Int)/\b[IJ (a:Int)]? = some (zr [HX .i64,HK,HX .i64,HX .i64,HX .i64,HK] b (IJ (a:Int)))
def cV (a:IU D) (b:Nat):Int:=Hf (IB (z1 a (IJ (b:Int)) 0) default)
def O0 (a:IU D) (b:Nat) (c:IU Ru):Prop:=0<=cV a b/\(IT Hm c)[IJ (cV a b)]? = some (zr [HI,EL,HX .i64,HK,HX .i64,HI,HX .i64,HK,HK,HK] (IT Hm c) (IJ (cV a b)))
def O1 (a:IU Ru) (b:IU D) (c:Nat):Bool:=D.toBool (IB (z1 (IT Hm a) (IJ (cV b c)) (0+1)) default)
def O2 (a:Nat) (b:Nat):Prop:=Hr .i64 ((a:Int)+1)=(b:Int)/\IN
theorem h19 (s:Sc) (w:IU Pl) (l:IU Ru) (hs:s.Fits) (hwl:w.length<1099511627776) (hl:l.length<1099511627776) (hw:rwts l<1099511627776):IK Tryz.prog G 19 [s.d,xl w,.sl (l.map Hm)] (· = [.int .i64 (xC l (zh s w l)),.int .i64 (x9 l (zh s w l)),.int .i64 (zE s w l)]):=by
 have h48:=h48 (G:=G) s w l hs hwl hl hw;rw[zj,zO]at *;refine zu (LL [(7,ze (α:=Nat) Tryz.prog G L0 0 (z8 (z6 Tryz.f19) 0) [2,9] (λx=>x<=(zh s w l).length/\zE s w l=0) (λx=>(zh s w l).length - x) (λx=>[(11,.d (.int .i64 (xC l ((zh s w l).take x)))),(12,.d (.int .i64 (x9 l ((zh s w l).take x)))),(13,.d (.int .i64 x))]) (λH _=>H))]) Tryz.func19 ⟨_,rfl⟩ (zt zz) ?_;apply @z7 _ (IK Tryz.prog G 48 [Hd [.sl (IT H9 (Hk s)),.sl (IT H8 (Hg s)),.sl (IT Hy (Hi s)),.sl (IT Hx (Hh s)),.sl (IT H7 (Hn s))],.agg [.sl (IT H6 w)],.sl (IT Hm l)] λ(rs:IU D)=>∃(l_1:IU D)(n:Int),rs=[II l_1,.int .i64 n]/\((n != 0)=true->[IP .i64 0,.int .i64 0,.int .i64 n]=Vb l s w)/\((n != 0)=false->∃(x0:Nat),Xa x0 s w l/\((IT Hm l=IT Hm l/\l_1=l_1/\0=fI l x0 s w/\0=x9 l (jV x0 s w l)/\(0:Int)=(x0:Int)/\IN)/\Sv s w)/\∀(x:Nat),Xa x s w l->(decide ((x:Int)<(↑(IR l_1):Int))=true->PA x l_1/\O0 l_1 x l/\(O1 l l_1 x=true->∃(y:Nat),Xa y s w l/\IR (zh s w l) - y<IR (zh s w l) - x/\(IT Hm l=IT Hm l/\l_1 = l_1/\Hr .i64 (fI l x s w+1)=fI l y s w/\x9 l (jV x s w l)=x9 l (jV y s w l)/\O2 x y)/\Sv s w)/\(O1 l l_1 x=false->PA x l_1/\O0 l_1 x l/\∃(y:Nat),Xa y s w l/\IR (zh s w l) - y<IR (zh s w l) - x/\(IT Hm l=IT Hm l/\l_1=l_1/\fI l x s w=fI l y s w/\Hr .i64 (x9 l (jV x s w l)+Hf (IB (z1 (IT Hm l) (IJ (cV l_1 x)) (0+1+1)) default))=x9 l (jV y s w l)/\O2 x y)/\Sv s w))/\(decide ((x:Int)<(↑(IR l_1):Int))=false->[IP .i64 (fI l x s w),.int .i64 (x9 l (jV x s w l)),.int .i64 0]=Vb l s w)))
 ·kernel_rfl
 delta Vb Xa fI jV Sv PA O0 cV O1 O2;have five:∀{A B C E F:IU D},(A=A/\B=B/\C=C/\E=E/\F=F/\IN):=⟨rfl,rfl,rfl,rfl,rfl,trivial⟩;refine h48.use ⟨_,_,rfl,λh=>?_,λh0=>?_⟩
 ·have hb:zh s w l=[]:=by unfold zh;rw[IE (by simpa using h)]
  rw[hb];rfl
 have hE:zE s w l=0:=by simpa using h0
 obtain⟨hlen,hty⟩:=cX hs hE;refine⟨0,⟨GD _,hE⟩,⟨⟨rfl,rfl,by simp[xC],by simp[x9],rfl,trivial⟩,five,⟨rfl,trivial⟩,trivial⟩,λx hx=>⟨λhlt=>?_,λhge=>?_⟩⟩
 ·simp only[H4,HS]at hlt;obtain⟨b,hb,hbm⟩:=zw (l:=zh s w l) (x:=x) (by omega);obtain⟨k,hk,hkl⟩:=sr hbm;obtain⟨r,hr,hm⟩:=zw (l:=l) (x:=k) hkl;have hat:rp l b.rule=r:=by unfold rp;rw[hk,HF,hr];rfl
  have ei (n:Int):Hf (IB (some (IP .i64 n)) default)=n:=rfl;have eb (n:Bool):D.toBool (IB (some (IL n)) default)=n:=rfl;have hw1:=Sw (hty r hm);have hcb:=aP l ((zh s w l).take x) λy hy=>by
   obtain⟨k2,hk2,hkl2⟩:=sr (De hy);obtain⟨r2,hr2,hm2⟩:=zw (l:=l) (x:=k2) hkl2;have:rp l y.rule=r2:=by unfold rp;rw[hk2,HF,hr2];rfl
   rw[this];exact Sw (hty r2 hm2)
  rw[FS]at hcb;have hhb:0<=xC l ((zh s w l).take x)/\xC l ((zh s w l).take x)<=4096:=by have h1:=C3 (p:=λx:In=>(rp l x.rule).hard) (l:=(zh s w l).take x);rw[FS]at h1;unfold xC;omega
  have hv1:0<=(x:Int)/\(IT GZ (zh s w l))[x]? = some b.d:=⟨by omega,PB hb⟩;have hv2:0<=(k:Int)/\(IT Hm l)[k]? = some r.d:=⟨by omega,by rw[G5,hr];rfl⟩;rw[HF,PC hb,fJ hb,ei,hk,HF,sX hr,mE hr,mD hr,ei,eb];refine⟨hv1,hv2,λhh=>⟨x+1,⟨by omega,hE⟩,by omega,⟨rfl,rfl,?_,?_,by rw[zx (by omega) (by omega)];rfl,trivial⟩,five,⟨rfl,trivial⟩,trivial⟩,λhh=>⟨hv1,hv2,x+1,⟨by omega,hE⟩,by omega,⟨rfl,rfl,?_,?_,by rw[zx (by omega) (by omega)];rfl,trivial⟩,five,⟨rfl,trivial⟩,trivial⟩⟩
  ·rw[zx (by omega) (by omega),yr hb,ov,hat,Hv hh]
  ·rw[yr hb,ow,hat,Hv hh,AM]
  ·rw[yr hb,ov,hat,IE (by simp[hh]),AM]
  ·rw[zx (by omega) (by omega),yr hb,ow,hat,IE (by simp[hh])]
 ·simp only[H4,HH]at hge;rw[Gs (by omega),hE]
end
structure Pn where
 sc:Sc
 rules:IU Ru
 frozen:IU Int
def Pn.d (p:Pn):D:= .agg [.sl (p.sc.slots.map H9),.sl (p.sc.rooms.map H8),.sl (p.sc.people.map Hy),.sl (p.sc.groups.map Hx),.sl (p.sc.lessons.map H7),.sl (p.rules.map Hm),.sl (p.frozen.map intD)]
structure Pn.Fits (p:Pn):Prop where
 sc:p.sc.Fits
 rules:p.rules.length<1099511627776
 wts:rwts p.rules<1099511627776
 frozen:p.frozen.length<1099511627776
theorem yj (p:Pn):p.d = .agg [.sl (p.sc.slots.map H9),.sl (p.sc.rooms.map H8),.sl (p.sc.people.map Hy),.sl (p.sc.groups.map Hx),.sl (p.sc.lessons.map H7),.sl (p.rules.map Hm),.sl (p.frozen.map intD)]:=rfl
def zJ (p:Pn) (w:IU Pl):Bool×Int:=if zE p.sc w p.rules≠0 then(false,0)else(xC p.rules (zh p.sc w p.rules)==0,x9 p.rules (zh p.sc w p.rules))
def Rh (a b:Pl):Bool:=a.slot==b.slot&&a.room==b.room
def yS (old w:IU Pl) (k:Int):Bool:=decide (0<=k)&&(decide (k<old.length)&&(decide (k<w.length)&& !Rh (xk old k) (xk w k)))
def xO (p:Pn) (old w:IU Pl):Bool:=y4 p.sc old != 0||p.frozen.all λk=>!yS old w k
def xu (p:Pn) (old w:IU Pl):Int:=if y4 p.sc old≠0 then 0 else if old.length=w.length then(diffL 0 old w).length else 0
theorem Rg {a b c:Bool}(h:(bif bif a then b else false then c else false)=true):a=true/\b=true/\c=true:=by cases a<;>cases b<;>cases c<;>first|exact⟨rfl,rfl,rfl⟩|cases h
theorem NU {a b c d:Bool}(h:(bif bif bif a then b else false then c else false then d else false)=true):a=true/\b=true/\c=true/\d=true:=by cases a<;>cases b<;>cases c<;>cases d<;>first|exact⟨rfl,rfl,rfl,rfl⟩|cases h
theorem J4 {a b c d:Bool}(h:(bif bif bif a then b else false then c else false then d else false)=false) (ha:a=true) (hb:b=true) (hc:c=true):d=false:=by subst ha hb hc;exact h
section
variable {G:Nat->IQ (IU D)}
def Mq (a:Pn) (b:IU Pl):IU D:=[IL (Hw (zJ a b)),.int .i64 (HL (zJ a b))]
theorem h8 (p:Pn) (w:IU Pl) (hp:p.Fits) (hw:w.length<1099511627776):IK Tryz.prog G 8 [p.d,xl w] (· = [.bool (zJ p w).1,.int .i64 (zJ p w).2]):=by
 have h19:=h19 (G:=G) p.sc w p.rules hp.sc hw hp.rules hp.wts;rw[zj,zO]at *;rw[yj];refine zq Tryz.func8 ⟨_,rfl⟩ ?_;apply @z7 _ (IK Tryz.prog G 19 [Hd [.sl (IT H9 (Hk (Pn.sc p))),.sl (IT H8 (Hg (Pn.sc p))),.sl (IT Hy (Hi (Pn.sc p))),.sl (IT Hx (Hh (Pn.sc p))),.sl (IT H7 (Hn (Pn.sc p)))],.agg [.sl (IT H6 w)],.sl (IT Hm (Pn.rules p))] λ(rs:IU D)=>∃(n:Int)(n_1:Int)(n_2:Int),rs=[IP .i64 n,.int .i64 n_1,.int .i64 n_2]/\((n_2 != 0)=true->[IL false,.int .i64 0]=Mq p w)/\((n_2 != 0)=false->[IL (n==0),.int .i64 n_1]=Mq p w))
 ·kernel_rfl
 delta Mq;refine h19.use ⟨_,_,_,rfl,λh=>?_,λh=>?_⟩
 ·have:zJ p w=(false,0):=by unfold zJ;rw[Hv (by simpa using h)]
  rw[this]
 ·unfold zJ;rw[IE (by simpa using h)]
def O3 (a:Pn) (b:IU Pl) (c:IU Pl):Prop:=[IP .i64 0]=[IP .i64 (xu a b c)]
theorem h25 (p:Pn) (old w:IU Pl) (hp:p.Fits) (ho:old.length<1099511627776) (hw:w.length<1099511627776):IK Tryz.prog G 25 [p.d,xl old,xl w] (· = [.int .i64 (xu p old w)]):=by
 have h53:=h53 (G:=G) p.sc old hp.sc ho;have h55:=h55 (G:=G) old w hw;rw[zj,zO]at *;rw[zO]at *;rw[yj];refine zq Tryz.func25 ⟨_,rfl⟩ ?_;apply @z7 _ (IK Tryz.prog G 53 [Hd [.sl (IT H9 (Hk (Pn.sc p))),.sl (IT H8 (Hg (Pn.sc p))),.sl (IT Hy (Hi (Pn.sc p))),.sl (IT Hx (Hh (Pn.sc p))),.sl (IT H7 (Hn (Pn.sc p)))],.agg [.sl (IT H6 old)]] λ(rs:IU D)=>∃(n:Int),rs=[IP .i64 n]/\((n != 0)=true->O3 p old w)/\((n != 0)=false->IK Tryz.prog G 55 [Hd [.sl (IT H6 old)],.agg [.sl (IT H6 w)]] λ(rs:IU D)=>∃(l:IU D)(n:Int),rs=[II l,.int .i64 n]/\((n != 0)=true->O3 p old w)/\((n != 0)=false->[IP .i64 (↑(IR l):Int)]=[IP .i64 (xu p old w)])))
 ·kernel_rfl
 delta O3;refine h53.use ⟨_,rfl,λh=>?_,λh=>h55.use ⟨_,_,rfl,λh2=>?_,λh2=>?_⟩⟩
 ·unfold xu;rw[Hv (by simpa using h)]
 ·have hc:y4 p.sc old=0:=by simpa using h
  have hne:¬ old.length=w.length:=λhe=>by rw[Hv he]at h2;cases h2
  unfold xu;rw[IE (show ¬ y4 p.sc old≠0 from λh=>h hc),IE hne]
 ·have hc:y4 p.sc old=0:=by simpa using h
  have he:old.length=w.length:=by
   rcases BH (old.length=w.length)with he|he
   ·exact he
   ·rw[IE he]at h2;cases h2
  unfold xu;rw[IE (show ¬ y4 p.sc old≠0 from λh=>h hc),Hv he,Hv he,H4]
def O4 (a:Pn) (b:IU Pl) (c:IU Pl):Prop:=[IL true]=[IL (xO a b c)]
def Su (a:Nat) (b:Pn) (c:IU Pl) (d:IU Pl):Prop:=a<=IR (Pn.frozen b)/\(F0 (HZ a (Pn.frozen b)) λ(k:Int)=>!yS c d k)=true
def fH (a:Pn):IU D:=IT intD (Pn.frozen a)
def O5 (a:Pn) (b:IU Pl) (c:IU Pl):Prop:=(IT H9 (Hk (Pn.sc a))=IT H9 (Hk (Pn.sc a))/\IT H8 (Hg (Pn.sc a))=IT H8 (Hg (Pn.sc a))/\IT Hy (Hi (Pn.sc a))=IT Hy (Hi (Pn.sc a))/\IT Hx (Hh (Pn.sc a))=IT Hx (Hh (Pn.sc a))/\IT H7 (Hn (Pn.sc a))=IT H7 (Hn (Pn.sc a))/\IT Hm (Pn.rules a)=IT Hm (Pn.rules a)/\fH a=fH a/\IN)/\(IT H6 b=IT H6 b/\IN)/\(IT H6 c=IT H6 c/\IN)/\IN
def jU (a:Pn) (b:Nat):Int:=Hf (IB (z1 (fH a) (IJ (b:Int)) 0) default)
def St (a:Pn) (b:Nat) (c:IU Pl) (d:IU Pl):Bool:=bif bif decide (jU a b>=0)then decide (jU a b<(↑(IR (IT H6 c)):Int))else false then decide (jU a b<(↑(IR (IT H6 d)):Int))else false
def O6 (a:Pn) (b:Nat) (c:IU Pl) (d:IU Pl):Prop:=St a b c d=true
def O7 (a:Pn) (b:Nat) (c:IU Pl):Prop:=0<=jU a b/\(IT H6 c)[IJ (jU a b)]? = some (zr [HX .i64,HX .i64] (IT H6 c) (IJ (jU a b)))
theorem h23 (p:Pn) (old w:IU Pl) (hp:p.Fits) (ho:old.length<1099511627776) (hw:w.length<1099511627776):IK Tryz.prog G 23 [p.d,xl old,xl w] (· = [.bool (xO p old w)]):=by
 have h53:=h53 (G:=G) p.sc old hp.sc ho;rw[zj,zO]at *;rw[zO]at *;rw[yj];refine zu (LL [(4,ze (α:=Nat) Tryz.prog G L0 0 (z8 (z6 Tryz.f23) 0) [3,4,5] (λx=>x<=p.frozen.length/\(p.frozen.take x).all (λk=>!yS old w k)=true) (λx=>p.frozen.length - x) (λx=>[(7,.d (.int .i64 x))]) (λH _=>H))]) Tryz.func23 ⟨_,rfl⟩ (zt zz) ?_;apply @z7 _ (IK Tryz.prog G 53 [Hd [.sl (IT H9 (Hk (Pn.sc p))),.sl (IT H8 (Hg (Pn.sc p))),.sl (IT Hy (Hi (Pn.sc p))),.sl (IT Hx (Hh (Pn.sc p))),.sl (IT H7 (Hn (Pn.sc p)))],.agg [.sl (IT H6 old)]] λ(rs:IU D)=>∃(n:Int),rs=[IP .i64 n]/\((n != 0)=true->O4 p old w)/\((n != 0)=false->∃(x0:Nat),Su x0 p old w/\((IA 0 0=IA 0 0/\IA 1 0=IA 1 0/\IA 2 0=IA 2 0/\(0:Int)=(x0:Int)/\IN)/\O5 p old w)/\∀(x:Nat),Su x p old w->(decide ((x:Int)<(↑(IR (fH p)):Int))=true->((0:Int)<=(x:Int)/\(fH p)[IJ (x:Int)]? = some (IP .i64 (jU p x)))/\(O6 p x old w->O7 p x old)/\(O6 p x old w->O7 p x w)/\((bif St p x old w then !(λ(r:Bool)=>Hf (IB (z1 (IT H6 old) (IJ (Hf (IB (z1 (IT intD (Pn.frozen p)) (IJ (x:Int)) 0) default))) 0) default)==Hf (IB (z1 (IT H6 w) (IJ (Hf (IB (z1 (IT intD (Pn.frozen p)) (IJ (x:Int)) 0) default))) 0) default)&&r) ((λ(r:Bool)=>Hf (IB (z1 (IT H6 old) (IJ (Hf (IB (z1 (IT intD (Pn.frozen p)) (IJ (x:Int)) 0) default))) (0+1)) default)==Hf (IB (z1 (IT H6 w) (IJ (Hf (IB (z1 (IT intD (Pn.frozen p)) (IJ (x:Int)) 0) default))) (0+1)) default)&&r) true)else false)=true->[IL false]=[IL (xO p old w)])/\((bif St p x old w then !(λ(r:Bool)=>Hf (IB (z1 (IT H6 old) (IJ (Hf (IB (z1 (IT intD (Pn.frozen p)) (IJ (x:Int)) 0) default))) 0) default)==Hf (IB (z1 (IT H6 w) (IJ (Hf (IB (z1 (IT intD (Pn.frozen p)) (IJ (x:Int)) 0) default))) 0) default)&&r) ((λ(r:Bool)=>Hf (IB (z1 (IT H6 old) (IJ (Hf (IB (z1 (IT intD (Pn.frozen p)) (IJ (x:Int)) 0) default))) (0+1)) default)==Hf (IB (z1 (IT H6 w) (IJ (Hf (IB (z1 (IT intD (Pn.frozen p)) (IJ (x:Int)) 0) default))) (0+1)) default)&&r) true)else false)=false->∃(y:Nat),Su y p old w/\IR (Pn.frozen p) - y<IR (Pn.frozen p) - x/\(IA 0 0=IA 0 0/\IA 1 0=IA 1 0/\IA 2 0=IA 2 0/\Hr .i64 ((x:Int)+1)=(y:Int)/\IN)/\O5 p old w))/\(decide ((x:Int)<(↑(IR (fH p)):Int))=false->O4 p old w)))
 ·kernel_rfl
 delta O4 Su O5 fH jU O6 St O7;refine h53.use ⟨_,rfl,λh=>?_,λh=>?_⟩
 ·unfold xO;rw[h];rfl
 have hb0:xO p old w=p.frozen.all λk=>!yS old w k:=by unfold xO;rw[h];rfl
 refine⟨0,⟨GD _,rfl⟩,⟨⟨rfl,rfl,rfl,rfl,trivial⟩,⟨rfl,rfl,rfl,rfl,rfl,rfl,rfl,trivial⟩,⟨rfl,trivial⟩,⟨rfl,trivial⟩,trivial⟩,λx hx=>⟨λhlt=>?_,λhge=>?_⟩⟩
 ·simp only[H4,HS]at hlt;have hfz:=hp.frozen;obtain⟨z,hz,hzm⟩:=zw (l:=p.frozen) (x:=x) (by omega);have ei (n:Int):Hf (IB (some (IP .i64 n)) default)=n:=rfl;have hall:yS old w z=false->(p.frozen.take (x+1)).all (λk=>!yS old w k)=true:=λhm=>by rw[yr hz,Fb,hx.2];simp[hm]
  rw[HF,yK hz,ei];by_cases hin:0<=z/\z<old.length/\z<w.length
  ·obtain⟨hz0,hzo,hzw⟩:=hin;obtain⟨a,ha,_⟩:=pB hz0 hzo;obtain⟨b,hb,_⟩:=pB hz0 hzw;rw[vh ha,vh hb,xZ ha,xY ha,xZ hb,xY hb,ei,ei,ei,ei];have e1:yS old w z = !Rh a b:=by unfold yS xk;rw[ha,hb];simp[hz0,hzo,hzw]
   refine⟨⟨by omega,xG hz⟩,λ_=>⟨hz0,vg ha⟩,λ_=>⟨hz0,vg hb⟩,λhm=>?_,λhm=>?_⟩
   ·have h5:=(NU hm).2.2.2;have h6:yS old w z=true:=by rw[e1];unfold Rh;simpa using h5
    have h7:(p.frozen.all λk=>!yS old w k)=false:=by rw[D3];exact⟨z,hzm,by simp[h6]⟩
    rw[hb0,h7]
   ·have h5:=J4 hm (decide_eq_true hz0) (decide_eq_true (by rw[H4];exact hzo)) (decide_eq_true (by rw[H4];exact hzw));have h6:yS old w z=false:=by rw[e1];unfold Rh;simpa using h5
    exact⟨x+1,⟨by omega,hall h6⟩,by omega,⟨rfl,rfl,rfl,by rw[zx (by omega) (by omega)];rfl,trivial⟩,⟨rfl,rfl,rfl,rfl,rfl,rfl,rfl,trivial⟩,⟨rfl,trivial⟩,⟨rfl,trivial⟩,trivial⟩
  ·have hno:∀{c:Bool×Bool×Bool},(c.1=true->0<=z)->(c.2.1=true->z<old.length)->(c.2.2=true->z<w.length)->¬ (c.1=true/\c.2.1=true/\c.2.2=true):=λh1 h2 h3 h4=>hin ⟨h1 h4.1,h2 h4.2.1,h3 h4.2.2⟩;have q1:decide (z>=0)=true->0<=z:=λh=>G0 h;have q2:decide (z<((IT H6 old).length:Int))=true->z<old.length:=λh=>by have:=G0 h;rwa [H4]at this
   have q3:decide (z<((IT H6 w).length:Int))=true->z<w.length:=λh=>by have:=G0 h;rwa [H4]at this
   have h6:yS old w z=false:=by unfold yS;rw[Bool.eq_false_iff];intro h;simp at h;exact hin ⟨h.1,h.2.1,h.2.2.1⟩
   refine⟨⟨by omega,xG hz⟩,λhg=>Hu ⟨q1 (Rg hg).1,q2 (Rg hg).2.1,q3 (Rg hg).2.2⟩ hin,λhg=>Hu ⟨q1 (Rg hg).1,q2 (Rg hg).2.1,q3 (Rg hg).2.2⟩ hin,λhg=>Hu ⟨q1 (NU hg).1,q2 (NU hg).2.1,q3 (NU hg).2.2.1⟩ hin,λ_=>?_⟩;exact⟨x+1,⟨by omega,hall h6⟩,by omega,⟨rfl,rfl,rfl,by rw[zx (by omega) (by omega)];rfl,trivial⟩,⟨rfl,rfl,rfl,rfl,rfl,rfl,rfl,trivial⟩,⟨rfl,trivial⟩,⟨rfl,trivial⟩,trivial⟩
 ·simp only[H4,HH]at hge;have h7:=hx.2;rw[Gs (by omega)]at h7;rw[hb0,h7]
end
open Go.Fo.Pn renaming frozen->GX,rules->F6,sc->HU
theorem ll {s:Sc}{m:Int}{w:IU Pl}(h:w∈(y5 s m).1):w.length=s.lessons.length:=by
 unfold y5 at h;split at h
 ·cases h
 split at h
 ·cases h
 split at h
 ·cases h
 ·exact fZ _ _ w h
theorem O8 {s:Sc}{m:Int}(h:(y5 s m).2≠0):(y5 s m).1=[]:=by
 unfold y5 at h ⊢;split
 ·rfl
 split
 ·rfl
 split
 ·rfl
 ·rename_i h1 h2 h3;rw[IE h1,IE h2,IE h3]at h;exact Hu rfl h
theorem lk {s:Sc}{m:Int}(hm:0<=m):((y5 s m).1.length:Int)<=m:=by
 unfold y5;split
 ·exact hm
 split
 ·exact hm
 split
 ·exact hm
 ·rename_i h1 h2 h3;unfold pn at h3;simp only[F9,HS,not_or]at h3;show((yR s.pls s.lessons.length).length:Int)<=m;omega
def vt (p:Pn) (old v:IU Pl):Bool:=(zJ p v).1&&xO p old v
def tx (p:Pn) (old:IU Pl):Bool:=(y5 p.sc 4096).1.all λv=>!vt p old v
def yA (p:Pn) (old w v:IU Pl):Bool:=decide ((zJ p v).2<(zJ p w).2)||((zJ p v).2==(zJ p w).2&&decide (xu p old v<xu p old w))
def vY (p:Pn) (old w:IU Pl):Bool:=vt p old w&&(y5 p.sc 4096).1.all λv=>!(vt p old v&&yA p old w v)
theorem m8 {a b:Bool}(h:(bif a then b else false)=true):a=true/\b=true:=by cases a<;>cases b<;>first|exact⟨rfl,rfl⟩|cases h
theorem Lp {a b:Bool}(h:(bif a then b else false)=false):a=false∨b=false:=by cases a<;>cases b<;>first|exact .inl rfl|exact .inr rfl|cases h
theorem Ss (a b:Bool):(bif a then true else b)=(a||b):=by cases a<;>rfl
theorem cU {s:Sc}{m:Int}{x:Nat}(h:(bif decide ((x:Int)<(((y5 s m).1.map xl).length:Int))then(y5 s m).2==0 else false)=false):(y5 s m).1.take x=(y5 s m).1:=by
 rcases Lp h with h|h
 ·have:=of_decide_eq_false h;rw[H4]at this;exact Gs (by omega)
 ·rw[O8 (by simpa using h),IU.take_nil]
section
variable {G:Nat->IQ (IU D)}
def XZ (a:Nat) (b:Pn) (c:IU Pl):Prop:=a<=IR (Hw (y5 (HU b) 4096))/\(F0 (HZ a (Hw (y5 (HU b) 4096))) λ(v:IU Pl)=>!vt b c v)=true
def Sr (a:Pn) (b:IU Pl):Prop:=(IT H9 (Hk (HU a))=IT H9 (Hk (HU a))/\IT H8 (Hg (HU a))=IT H8 (Hg (HU a))/\IT Hy (Hi (HU a))=IT Hy (Hi (HU a))/\IT Hx (Hh (HU a))=IT Hx (Hh (HU a))/\IT H7 (Hn (HU a))=IT H7 (Hn (HU a))/\IT Hm (F6 a)=IT Hm (F6 a)/\IT intD (GX a)=IT intD (GX a)/\IN)/\(IT H6 b=IT H6 b/\IN)/\IN
def cT (a:Nat) (b:IU D) (c:Int):Bool:=bif decide ((a:Int)<(↑(IR b):Int))then c==0 else false
def fG (a:Nat) (b:IU D):Prop:=(0:Int)<=(a:Int)/\b[IJ (a:Int)]? = some (zr [HK] b (IJ (a:Int)))
def h12q5 (a:Pn):D:=Hd [.sl (IT H9 (Hk (HU a))),.sl (IT H8 (Hg (HU a))),.sl (IT Hy (Hi (HU a))),.sl (IT Hx (Hh (HU a))),.sl (IT H7 (Hn (HU a))),.sl (IT Hm (F6 a)),.sl (IT intD (GX a))]
theorem h12 (p:Pn) (old:IU Pl) (hp:p.Fits) (ho:old.length<1099511627776):IK Tryz.prog G 12 [p.d,xl old] (· = [.bool (tx p old)]):=by
 have h24:=h24 (G:=G) p.sc 4096 hp.sc (by decide);have h8:=λw h=>h8 (G:=G) p w hp h;have h23:=λw h=>h23 (G:=G) p old w hp ho h;rw[zj]at *;rw[yj]at *;rw[zO old]at *;refine zu (LL [(3,ze (α:=Nat) Tryz.prog G L0 0 (z8 (z6 Tryz.f12) 0) [2,3,5,6] (λx=>x<=(y5 p.sc 4096).1.length/\((y5 p.sc 4096).1.take x).all (λv=>!vt p old v)=true) (λx=>(y5 p.sc 4096).1.length - x) (λx=>[(7,.d (.int .i64 x))]) (λH _=>H))]) Tryz.func12 ⟨_,rfl⟩ (zt zz) ?_;apply @z7 _ (IK Tryz.prog G 24 [Hd [.sl (IT H9 (Hk (HU p))),.sl (IT H8 (Hg (HU p))),.sl (IT Hy (Hi (HU p))),.sl (IT Hx (Hh (HU p))),.sl (IT H7 (Hn (HU p)))],.int .i64 4096] λ(rs:IU D)=>∃(l:IU D)(n:Int),rs=[II l,.int .i64 n]/\∃(x0:Nat),XZ x0 p old/\((IA 0 0=IA 0 0/\IA 1 0=IA 1 0/\l=l/\n=n/\(0:Int)=(x0:Int)/\IN)/\Sr p old)/\∀(x:Nat),XZ x p old->(cT x l n=true->fG x l/\IK Tryz.prog G 8 [h12q5 p,zr [HK] l (IJ (x:Int))] λ(rs:IU D)=>∃(b:Bool)(n_1:Int),rs=[IL b,.int .i64 n_1]/\(b=true->fG x l)/\IK Tryz.prog G 23 [h12q5 p,.agg [.sl (IT H6 old)],zr [HK] l (IJ (x:Int))] λ(rs:IU D)=>∃(b_1:Bool),rs=[IL b_1]/\((bif b then b_1 else false)=true->[IL false]=[IL (tx p old)])/\((bif b then b_1 else false)=false->∃(y:Nat),XZ y p old/\IR (Hw (y5 (HU p) 4096)) - y<IR (Hw (y5 (HU p) 4096)) - x/\(IA 0 0=IA 0 0/\IA 1 0=IA 1 0/\l=l/\n=n/\Hr .i64 ((x:Int)+1)=(y:Int)/\IN)/\Sr p old))/\(cT x l n=false->[IL true]=[IL (tx p old)]))
 ·kernel_rfl
 delta XZ Sr cT fG h12q5;have hlen:=lk (s:=p.sc) (m:=4096) (by decide);refine h24.use ⟨_,_,rfl,0,⟨GD _,rfl⟩,⟨⟨rfl,rfl,rfl,rfl,rfl,trivial⟩,⟨rfl,rfl,rfl,rfl,rfl,rfl,rfl,trivial⟩,⟨rfl,trivial⟩,trivial⟩,λx hx=>⟨λhlt=>?_,λhge=>?_⟩⟩
 ·have hlt:=G0 (m8 hlt).1;rw[H4]at hlt;obtain⟨v,hv,hm⟩:=zw (l:=(y5 p.sc 4096).1) (x:=x) (by omega);have hvl:v.length<1099511627776:=by rw[ll hm];exact hp.sc.lessons
  have hg:0<=(x:Int)/\(IT xl (y5 p.sc 4096).1)[x]? = some (xl v):=⟨by omega,fU hv⟩;rw[HF,fV hv];refine⟨hg,(h8 v hvl).use ⟨_,_,rfl,λ_=>hg,(h23 v hvl).use ⟨_,rfl,λh=>?_,λh=>?_⟩⟩⟩
  ·have h6:vt p old v=true:=by unfold vt;rw[←zn];exact h
   have h7:tx p old=false:=by unfold tx;rw[D3];exact⟨v,hm,by simp[h6]⟩
   rw[h7]
  ·have h6:vt p old v=false:=by unfold vt;rw[←zn];exact h
   exact⟨x+1,⟨by omega,by rw[yr hv,Fb,hx.2];simp[h6]⟩,by omega,⟨rfl,rfl,rfl,rfl,by rw[zx (by omega) (by omega)];rfl,trivial⟩,⟨rfl,rfl,rfl,rfl,rfl,rfl,rfl,trivial⟩,⟨rfl,trivial⟩,trivial⟩
 ·have h7:=hx.2;rw[cU hge]at h7;have h8:tx p old=true:=h7;rw[h8]
def jT (a:IU Pl):D:=Hd [.sl (IT H6 a)]
def cS (a:Int):IU D:=[IP .i64 a]
def O9 (a:Pn) (b:IU Pl) (c:IU Pl):Prop:=[IL false]=[IL (vY a b c)]
def Sq (a:Nat) (b:Pn) (c:IU Pl) (d:IU Pl):Prop:=a<=IR (Hw (y5 (HU b) 4096))/\(F0 (HZ a (Hw (y5 (HU b) 4096))) λ(v:IU Pl)=>!(vt b c v&&yA b c d v))=true
def Oz (a:Pn) (b:IU Pl) (c:IU Pl):Prop:=(IT H9 (Hk (HU a))=IT H9 (Hk (HU a))/\IT H8 (Hg (HU a))=IT H8 (Hg (HU a))/\IT Hy (Hi (HU a))=IT Hy (Hi (HU a))/\IT Hx (Hh (HU a))=IT Hx (Hh (HU a))/\IT H7 (Hn (HU a))=IT H7 (Hn (HU a))/\IT Hm (F6 a)=IT Hm (F6 a)/\IT intD (GX a)=IT intD (GX a)/\IN)/\(IT H6 b=IT H6 b/\IN)/\(IT H6 c=IT H6 c/\IN)/\IN
def Sp (a:IU D) (b:Nat):IU D:=[zr [HK] a (IJ (b:Int))]
def Oy (a:Bool) (b:Bool) (c:Int) (d:Int) (e:Int) (f:Int):Bool:=bif bif a then b else false then bif decide (c<d)then true else bif c==d then decide (e<f)else false else false
theorem h10 (p:Pn) (old w:IU Pl) (hp:p.Fits) (ho:old.length<1099511627776) (hw:w.length<1099511627776):IK Tryz.prog G 10 [p.d,xl old,xl w] (· = [.bool (vY p old w)]):=by
 have h24:=h24 (G:=G) p.sc 4096 hp.sc (by decide);have h8:=λw h=>h8 (G:=G) p w hp h;have h23:=λw h=>h23 (G:=G) p old w hp ho h;have h25:=λw h=>h25 (G:=G) p old w hp ho h;rw[zj]at *;rw[yj]at *;rw[zO old]at *;rw[zO w];refine zu (LL [(6,ze (α:=Nat) Tryz.prog G L0 0 (z8 (z6 Tryz.f10) 0) [3,4,5,8,9,10] (λx=>x<=(y5 p.sc 4096).1.length/\((y5 p.sc 4096).1.take x).all (λv=>!(vt p old v&&yA p old w v))=true) (λx=>(y5 p.sc 4096).1.length - x) (λx=>[(11,.d (.int .i64 x))]) (λH _=>H))]) Tryz.func10 ⟨_,rfl⟩ (zt zz) ?_;apply @z7 _ (IK Tryz.prog G 8 [h12q5 p,jT w] λ(rs:IU D)=>∃(b:Bool)(n:Int),rs=IL b::cS n/\IK Tryz.prog G 23 [h12q5 p,jT old,jT w] λ(rs:IU D)=>∃(b_1:Bool),rs=[IL b_1]/\((bif !b then true else !b_1)=true->O9 p old w)/\((bif !b then true else !b_1)=false->IK Tryz.prog G 24 [Hd [.sl (IT H9 (Hk (HU p))),.sl (IT H8 (Hg (HU p))),.sl (IT Hy (Hi (HU p))),.sl (IT Hx (Hh (HU p))),.sl (IT H7 (Hn (HU p)))],.int .i64 4096] λ(rs:IU D)=>∃(l:IU D)(n_1:Int),rs=II l::cS n_1/\∃(x0:Nat),Sq x0 p old w/\((IA 0 0=IA 0 0/\IA 1 0=IA 1 0/\IA 2 0=IA 2 0/\n=n/\l=l/\n_1=n_1/\(0:Int)=(x0:Int)/\IN)/\Oz p old w)/\∀(x:Nat),Sq x p old w->(cT x l n_1=true->fG x l/\IK Tryz.prog G 8 (h12q5 p::Sp l x) λ(rs:IU D)=>∃(b:Bool)(n_2:Int),rs=IL b::cS n_2/\(b=true->fG x l)/\IK Tryz.prog G 23 (h12q5 p::jT old::Sp l x) λ(rs:IU D)=>∃(b_2:Bool),rs=[IL b_2]/\(((bif b then b_2 else false)=true/\decide (n_2<n)=false)/\(n_2==n)=true->fG x l)/\IK Tryz.prog G 25 (h12q5 p::jT old::Sp l x) λ(rs:IU D)=>∃(n_3:Int),rs=cS n_3/\IK Tryz.prog G 25 [h12q5 p,jT old,jT w] λ(rs:IU D)=>∃(n_4:Int),rs=cS n_4/\(Oy b b_2 n_2 n n_3 n_4=true->O9 p old w)/\(Oy b b_2 n_2 n n_3 n_4=false->∃(y:Nat),Sq y p old w/\IR (Hw (y5 (HU p) 4096)) - y<IR (Hw (y5 (HU p) 4096)) - x/\(IA 0 0=IA 0 0/\IA 1 0=IA 1 0/\IA 2 0=IA 2 0/\n=n/\l=l/\n_1=n_1/\Hr .i64 ((x:Int)+1)=(y:Int)/\IN)/\Oz p old w))/\(cT x l n_1=false->[IL true]=[IL (vY p old w)])))
 ·kernel_rfl
 delta h12q5 XZ Sr cT fG jT cS O9 Sq Oz Sp Oy;have hlen:=lk (s:=p.sc) (m:=4096) (by decide);refine(h8 w hw).use ⟨_,_,rfl,(h23 w hw).use ⟨_,rfl,λh=>?_,λh=>?_⟩⟩
 ·have h6:vt p old w=false:=by
   unfold vt;cases h1:(zJ p w).1 with
   |false=>rfl
   |true=>rw[h1]at h;simpa using h
  have h7:vY p old w=false:=by unfold vY;rw[h6];rfl
  rw[h7]
 have hok:vt p old w=true:=by
  unfold vt;cases h1:(zJ p w).1 with
  |false=>rw[h1]at h;cases h
  |true=>rw[h1]at h;simpa using h
 have hbe:vY p old w=(y5 p.sc 4096).1.all λv=>!(vt p old v&&yA p old w v):=by unfold vY;rw[hok];rfl
 refine h24.use ⟨_,_,rfl,0,⟨GD _,rfl⟩,⟨⟨rfl,rfl,rfl,rfl,rfl,rfl,rfl,trivial⟩,⟨rfl,rfl,rfl,rfl,rfl,rfl,rfl,trivial⟩,⟨rfl,trivial⟩,⟨rfl,trivial⟩,trivial⟩,λx hx=>⟨λhlt=>?_,λhge=>?_⟩⟩
 ·have hlt:=G0 (m8 hlt).1;rw[H4]at hlt;obtain⟨v,hv,hm⟩:=zw (l:=(y5 p.sc 4096).1) (x:=x) (by omega);have hvl:v.length<1099511627776:=by rw[ll hm];exact hp.sc.lessons
  have hg:0<=(x:Int)/\(IT xl (y5 p.sc 4096).1)[x]? = some (xl v):=⟨by omega,fU hv⟩;rw[HF,fV hv];refine⟨hg,(h8 v hvl).use ⟨_,_,rfl,λ_=>hg,(h23 v hvl).use ⟨_,rfl,λ_=>hg,(h25 v hvl).use ⟨_,rfl,(h25 w hw).use ⟨_,rfl,λh=>?_,λh=>?_⟩⟩⟩⟩⟩
  ·have h6:(vt p old v&&yA p old w v)=true:=by unfold vt yA;rw[←zn,←zn,←zn,←Ss];exact h
   have h7:vY p old w=false:=by rw[hbe,D3];exact⟨v,hm,by rw[h6];decide⟩
   rw[h7]
  ·have h6:(vt p old v&&yA p old w v)=false:=by unfold vt yA;rw[←zn,←zn,←zn,←Ss];exact h
   exact⟨x+1,⟨by omega,by rw[yr hv,Fb,hx.2];simp only[IU.all_cons,IU.all_nil,h6];rfl⟩,by omega,⟨rfl,rfl,rfl,rfl,rfl,rfl,by rw[zx (by omega) (by omega)];rfl,trivial⟩,⟨rfl,rfl,rfl,rfl,rfl,rfl,rfl,trivial⟩,⟨rfl,trivial⟩,⟨rfl,trivial⟩,trivial⟩
 ·have h7:=hx.2;rw[cU hge]at h7;rw[hbe,h7]
end
section
variable {p:Pn}{old:IU Pl}
end
def uz (l:IU Ru) (i:Nat):IU Bd:=match l[i]? with|some r=>r.each|none=>[]
section
variable {G:Nat->IQ (IU D)}
def fF (a:IU Ru):Prop:=IT Hm a=IT Hm a
def XY (a:Sc):Prop:=(IT H9 (Hk a)=IT H9 (Hk a)/\IT H8 (Hg a)=IT H8 (Hg a)/\IT Hy (Hi a)=IT Hy (Hi a)/\IT Hx (Hh a)=IT Hx (Hh a)/\IT H7 (Hn a)=IT H7 (Hn a)/\IN)/\IN
def Va (a:Nat×Int) (b:IU Ru):Bool:=bif decide ((↑(Hw a):Int)<(↑(IR (IT Hm b)):Int))then decide ((↑(Hw a):Int)<20)else false
def tS (a:Nat×Int):Nat:=IJ (↑(Hw a):Int)
def jS (a:Nat×Int) (b:IU Ru):Prop:=(0:Int)<=(↑(Hw a):Int)/\(IT Hm b)[tS a]? = some (zr [HI,EL,HX .i64,HK,HX .i64,HI,HX .i64,HK,HK,HK] (IT Hm b) (tS a))
def h17q9:Nat:=0+1+1+1+1
def VZ (a:IU Ru) (b:Nat×Int):IU D:=[Hd [.int .i64 (Hf (IB (z1 (IT Hm a) (tS b) h17q9) default)),.str (Gc (IB (z1 (IT Hm a) (tS b) (h17q9+1)) default)),.int .i64 (Hf (IB (z1 (IT Hm a) (tS b) (h17q9+1+1)) default)),.sl (Gl (IB (z1 (IT Hm a) (tS b) (h17q9+1+1+1)) default)),.sl (Gl (IB (z1 (IT Hm a) (tS b) (h17q9+1+1+1+1)) default)),.sl (Gl (IB (z1 (IT Hm a) (tS b) (h17q9+1+1+1+1+1)) default))]]
def cR (a:IU Ru) (b:Nat×Int):IU D:=Gl (IB (z1 (IT Hm a) (tS b) (0+1+1+1)) default)
def So (a:IU Ru) (b:Nat×Int):Int:=(↑(IR (cR a b)):Int)
def Ox (a:Bool) (b:IU Ru) (c:Nat×Int):Bool:=bif !a then true else decide (So b c>12)
def VY (a:Bool) (b:IU Ru) (c:Nat×Int):Bool:=bif Ox a b c then true else decide ((↑(IR (Gc (IB (z1 (IT Hm b) (tS c) 0) default))):Int)>100)
def Sn (a:Nat) (b:IU Ru) (c:Nat×Int):Prop:=a<=IR (uz b (Hw c))
def Ow (a:IU Ru) (b:Nat×Int) (c:Nat):Bool:=decide ((↑(IR (Gc (IB (z1 (cR a b) (IJ (c:Int)) 0) default))):Int)>100)
def h17q14 (a:Sc):D:=Hd [.sl (IT H9 (Hk a)),.sl (IT H8 (Hg a)),.sl (IT Hy (Hi a)),.sl (IT Hx (Hh a)),.sl (IT H7 (Hn a))]
def Ov (a:Nat×Int) (b:Int) (c:Int):Int:=Hr .i64 (HL a+Hr .i64 (b*c))
theorem h17 (s:Sc) (l:IU Ru) (hs:s.Fits) (hl:l.length<1099511627776) (hw:rwts l<1099511627776):IK Tryz.prog G 17 [s.d,.sl (l.map Hm)] (λrs=>∃b,rs=[.bool b]):=by
 have h42:=λf h=>Im (G:=G) f h;have h43:=λbs h=>h43 (G:=G) s bs hs h;have h44:=λf h=>h44 (G:=G) s f hs h;have h45:=h45 (G:=G) s hs;have h46:=h46 (G:=G) s l hs hl hw;rw[zj]at *;refine zu (LL [(3,xH (α:=Nat×Int) Tryz.prog G (λi=>LL [(8,ze (α:=Nat) Tryz.prog G L0 0 (z8 (z8 (z6 Tryz.f17) 0) 0) [1,2,5,6] (λk=>k<=(uz l i.1).length) (λk=>(uz l i.1).length - k) (λk=>[(7,.d (.int .i64 k))]) (λH _=>H))]) 0 (z8 (z6 Tryz.f17) 0) [1,2] (λx=>x.1<=l.length) (λx=>l.length - x.1) (λx=>[(5,.d (.int .i64 x.2)),(6,.d (.int .i64 x.1))]) (λH _=>H))]) Tryz.func17 ⟨_,true,rfl⟩ (zt (zA mixed (λ_=>zt zz))) ?_;apply @z7 _ (∃(x0:Nat×Int),Hw x0<=IR l/\((fF l/\IA 0 0=IA 0 0/\0=HL x0/\(0:Int)=(↑(Hw x0):Int)/\IN)/\XY s)/\∀(x:Nat×Int),Hw x<=IR l->(Va x l=true->jS x l/\IK Tryz.prog G 42 (VZ l x) λ(rs:IU D)=>∃(b:Bool),rs=[IL b]/\((!b)=false->jS x l)/\(Ox b l x=false->jS x l)/\(VY b l x=true->∃(b:Bool),[IL false]=[IL b])/\(VY b l x=false->∃(x0:Nat),Sn x0 l x/\((fF l/\IA 0 0=IA 0 0/\HL x=HL x/\(↑(Hw x):Int)=(↑(Hw x):Int)/\(0:Int)=(x0:Int)/\IN)/\XY s)/\∀(x_1:Nat),Sn x_1 l x->jS x l/\(decide ((x_1:Int)<So l x)=true->jS x l/\((0:Int)<=(x_1:Int)/\(cR l x)[IJ (x_1:Int)]? = some (zr [HI,HX .i64] (cR l x) (IJ (x_1:Int))))/\(Ow l x x_1=true->∃(b:Bool),[IL false]=[IL b])/\(Ow l x x_1=false->∃(y:Nat),Sn y l x/\IR (uz l (Hw x)) - y<IR (uz l (Hw x)) - x_1/\(fF l/\IA 0 0=IA 0 0/\HL x=HL x/\(↑(Hw x):Int)=(↑(Hw x):Int)/\Hr .i64 ((x_1:Int)+1)=(y:Int)/\IN)/\XY s))/\(decide ((x_1:Int)<So l x)=false->jS x l/\jS x l/\IK Tryz.prog G 43 [h17q14 s,.sl (cR l x)] λ(rs:IU D)=>∃(n:Int),rs=[IP .i64 n]/\IK Tryz.prog G 44 (h17q14 s::VZ l x) λ(rs:IU D)=>∃(n_1:Int),rs=[IP .i64 n_1]/\∃(y:Nat×Int),Hw y<=IR l/\IR l - Hw y<IR l - Hw x/\(fF l/\IA 0 0=IA 0 0/\(if 1048576<Ov x n n_1 then 1048576 else Ov x n n_1) = HL y/\Hr .i64 ((↑(Hw x):Int)+1)=(↑(Hw y):Int)/\IN)/\XY s)))/\(Va x l=false->IK Tryz.prog G 45 [h17q14 s] λ(rs:IU D)=>∃(b:Bool),rs=[IL b]/\IK Tryz.prog G 46 [h17q14 s,.sl (IT Hm l)] λ(rs:IU D)=>∃(b_1:Bool),rs=[IL b_1]/\∃(b_2:Bool),[IL (bif bif b then decide ((↑(IR (IT Hm l)):Int)<=12)else false then bif decide (HL x<=20000)then true else b_1 else false)]=[IL b_2]))
 ·kernel_rfl
 delta fF XY Va jS tS VZ h17q9 Ox So cR VY Sn Ow h17q14 Ov;refine⟨(0,0),GD _,⟨⟨rfl,rfl,rfl,rfl,trivial⟩,⟨rfl,rfl,rfl,rfl,rfl,trivial⟩,trivial⟩,λx hx=>⟨λhlt=>?_,λ_=>h45.mono λrs hrs=>?_⟩⟩
 ·have hlt:=G0 (m8 hlt).1;rw[H4]at hlt;obtain⟨r,hr,hm⟩:=zw (l:=l) (x:=x.1) (by omega);have hrw:=rwts_mem hm;have hew:r.each.length<=nq r.each:=by unfold nq;omega
  have hrw2:r.wt=r.name.length+nq r.each+r.body.wt:=rfl;have ei (n:Int):Hf (IB (some (IP .i64 n)) default)=n:=rfl;have es (n:Nm):Gc (IB (some (HW n)) default)=n:=rfl;have el (l:IU D):Gl (IB (some (II l)) default)=l:=rfl;have hv:0<=(x.1:Int)/\(IT Hm l)[x.1]? = some r.d:=⟨by omega,by rw[G5,hr];rfl⟩;have hea:uz l x.1=r.each:=by unfold uz;rw[hr]
  have h42r:=h42 r.body (by omega);have h44r:=h44 r.body (by omega);rw[yf r.body]at h42r h44r;rw[HF,sX hr,sD hr,sC hr,sB hr,sA hr,r6 hr,r7 hr,r8 hr,r9 hr,ei,ei,es,es,el,el,el,el,hea];refine⟨hv,h42r.mono λrs hrs=>?_⟩;obtain⟨b,rfl⟩:=hrs;refine⟨b,rfl,λ_=>hv,λ_=>hv,λ_=>⟨_,rfl⟩,λ_=>⟨0,GD _,⟨⟨rfl,rfl,rfl,rfl,rfl,trivial⟩,⟨rfl,rfl,rfl,rfl,rfl,trivial⟩,trivial⟩,λk hk=>⟨hv,λhkl=>?_,λ_=>⟨hv,hv,(h43 r.each (by omega)).use ⟨_,rfl,h44r.use ⟨_,rfl,(x.1+1,_),by show x.1+1<=_;omega,by show _ - (x.1+1)<_;omega,⟨rfl,rfl,rfl,by rw[zx (by omega) (by omega)];rfl,trivial⟩,⟨rfl,rfl,rfl,rfl,rfl,trivial⟩,trivial⟩⟩⟩⟩⟩⟩;simp only[H4,HS]at hkl;obtain⟨z,hz,hzm⟩:=zw (l:=r.each) (x:=k) (by omega);rw[HF,w6 hz];exact⟨hv,⟨by omega,by rw[G5,hz];rfl⟩,λ_=>⟨_,rfl⟩,λ_=>⟨k+1,by omega,by omega,⟨rfl,rfl,rfl,rfl,by rw[zx (by omega) (by omega)];rfl,trivial⟩,⟨rfl,rfl,rfl,rfl,rfl,trivial⟩,trivial⟩⟩
 ·obtain⟨b,rfl⟩:=hrs;exact⟨b,rfl,h46.use ⟨_,rfl,_,rfl⟩⟩
theorem h6 (p:Pn) (hp:p.Fits):IK Tryz.prog G 6 [p.d] (λrs=>∃b,rs=[.bool b]):=by
 have h17:=h17 (G:=G) p.sc p.rules hp.sc hp.rules hp.wts;rw[zj]at *;rw[yj];refine zq Tryz.func6 ⟨_,true,rfl⟩ ?_;apply @z7 _ (IK Tryz.prog G 17 [Hd [.sl (IT H9 (Hk (HU p))),.sl (IT H8 (Hg (HU p))),.sl (IT Hy (Hi (HU p))),.sl (IT Hx (Hh (HU p))),.sl (IT H7 (Hn (HU p)))],.sl (IT Hm (F6 p))] λ(rs:IU D)=>∃(b:Bool),rs=[IL b]/\∃(b_1:Bool),[IL (bif bif bif bif b then decide ((↑(IR (IT H7 (Hn (HU p)))):Int)<=3)else false then decide ((↑(IR (IT H9 (Hk (HU p)))):Int)<=3)else false then decide ((↑(IR (IT H8 (Hg (HU p)))):Int)<=2)else false then decide ((↑(IR (IT intD (GX p))):Int)<=10)else false)]=[IL b_1])
 ·kernel_rfl
 refine h17.mono λrs hrs=>?_;obtain⟨b,rfl⟩:=hrs;exact⟨b,rfl,_,rfl⟩
end
def fE (a b:Int):Int:=if a<b then -1 else if a>b then 1 else 0
section
variable {G:Nat->IQ (IU D)}
theorem Lo (n m:Int):IK Tryz.prog G 58 [.int .i64 n,.int .i64 m] (· = [.bool (decide (0<=n)&&decide (n<=m))]):=by
 refine zq Tryz.func58 ⟨_,rfl⟩ ?_;apply @z7 _ ([IL (bif decide (n>=0)then decide (n<=m)else false)]=[IL (decide (0<=n)&&decide (n<=m))])
 ·kernel_rfl
 rw[zn]
theorem h122 (n:Int):IK Tryz.prog G 122 [.int .i64 n] (· = [.bool false]):=by
 refine zq Tryz.func122 ⟨_,rfl⟩ ?_;apply @z7 _ ([IL (n != n)]=[IL false])
 ·kernel_rfl
 simp
def kD (a:Int) (b:Int):IU D:=[IP .i64 (fE a b)]
def VX (a:Int) (b:Int):Prop:=[IP .i64 0]=kD a b
theorem J5 (a b:Int):IK Tryz.prog G 137 [.int .i64 a,.int .i64 b] (· = [.int .i64 (fE a b)]):=by
 have h122:=λn=>h122 (G:=G) n;refine zq Tryz.func137 ⟨_,rfl⟩ ?_;apply @z7 _ (IK Tryz.prog G 122 [IP .i64 a] λ(rs:IU D)=>∃(b_1:Bool),rs=[IL b_1]/\IK Tryz.prog G 122 [IP .i64 b] λ(rs:IU D)=>∃(b_2:Bool),rs=[IL b_2]/\(b_1=true->(b_2=true->VX a b)/\(b_2=false->[IP .i64 (-1)]=kD a b))/\(b_1=false->(b_2=true->[IP .i64 1]=kD a b)/\(b_2=false->(decide (a<b)=true->[IP .i64 (-1)]=kD a b)/\(decide (a<b)=false->(decide (a>b)=true->[IP .i64 1]=kD a b)/\(decide (a>b)=false->VX a b)))))
 ·kernel_rfl
 delta VX kD;refine(h122 a).use ⟨_,rfl,(h122 b).use ⟨_,rfl,λh=>(by cases h),λ_=>⟨λh=>(by cases h),λ_=>⟨λh=>?_,λh=>⟨λh2=>?_,λh2=>?_⟩⟩⟩⟩⟩
 ·unfold fE;rw[Hv (G0 h)]
 ·unfold fE;rw[IE (of_decide_eq_false h),Hv (G0 h2)]
 ·unfold fE;rw[IE (of_decide_eq_false h),IE (of_decide_eq_false h2)]
theorem Mo (a b:Int):IK Tryz.prog G 133 [.int .i64 a,.int .i64 b] (· = [.int .i64 (zF 1048577 (Hr .i64 (a*b)))]):=by
 refine zq Tryz.func133 ⟨_,rfl⟩ ?_;apply @z7 _ ([IP .i64 (if 1048577<Hr .i64 (a*b)then 1048577 else Hr .i64 (a*b))]=[IP .i64 (zF 1048577 (Hr .i64 (a*b)))])
 ·kernel_rfl
 rfl
def XX (a:Nat) (b:IU Int) (c:Int):Prop:=a<=IR b/\placesF (vw (HZ a b)) (GM a b) c=y3 b c
def ro (a:IU Int) (b:Nat):Int:=Hf (IB (z1 (IT intD a) (IJ (b:Int)) 0) default)
def Sm (a:IU Int) (b:Nat) (c:Int):Bool:=bif decide (ro a b<=vw (HZ b a))then true else decide (ro a b>=c)
theorem Kl (l:IU Int) (n:Int) (hl:l.length<4611686018427387904):IK Tryz.prog G 60 [.sl (l.map intD),.int .i64 n] (· = [.bool (y3 l n)]):=by
 refine zu (LL [(3,ze (α:=Nat) Tryz.prog G L0 0 (z8 (z6 Tryz.f60) 0) [1,8,9] (λx=>x<=l.length/\placesF (vw (l.take x)) (l.drop x) n=y3 l n) (λx=>l.length - x) (λx=>[(5,.d (.int .i64 (vw (l.take x)))),(10,.d (.int .i64 x))]) (λH _=>H))]) Tryz.func60 ⟨_,rfl⟩ (zt zz) ?_;apply @z7 _ (∃(x0:Nat),XX x0 l n/\((n=n/\(-1)=vw (HZ x0 l)/\IT intD l=IT intD l/\(↑(IR (IT intD l)):Int)=(↑(IR (IT intD l)):Int)/\(0:Int)=(x0:Int)/\IN)/\IN)/\∀(x:Nat),XX x l n->(decide ((x:Int)<(↑(IR (IT intD l)):Int))=true->((0:Int)<=(x:Int)/\(IT intD l)[IJ (x:Int)]? = some (IP .i64 (ro l x)))/\(Sm l x n=true->[IL false]=[IL (y3 l n)])/\(Sm l x n=false->∃(y:Nat),XX y l n/\IR l - y<IR l - x/\(n=n/\ro l x=vw (HZ y l)/\IT intD l=IT intD l/\(↑(IR (IT intD l)):Int)=(↑(IR (IT intD l)):Int)/\Hr .i64 ((x:Int)+1)=(y:Int)/\IN)/\IN))/\(decide ((x:Int)<(↑(IR (IT intD l)):Int)) = false->[IL true]=[IL (y3 l n)]))
 ·kernel_rfl
 delta XX ro Sm;refine⟨0,⟨GD _,rfl⟩,⟨⟨rfl,rfl,rfl,rfl,rfl,trivial⟩,trivial⟩,λx hx=>⟨λhlt=>?_,λhge=>?_⟩⟩
 ·simp only[H4,HS]at hlt;obtain⟨z,hz,hm⟩:=zw (l:=l) (x:=x) (by omega);have e0:Hf (IB (some (IP .i64 z)) default)=z:=rfl;have hx2:=hx.2;rw[ye hz,placesF]at hx2;rw[HF,yK hz,e0];refine⟨⟨by omega,xG hz⟩,λh=>?_,λh=>?_⟩
  ·rw[zH,F9,HS,HS]at h;have:(decide (vw (l.take x)<z)&&decide (z<n))=false:=by rw[FH,HH,HH];omega
   rw[this]at hx2;rw[←hx2];rfl
  ·rw[zH,E3,HH,HH]at h;have:(decide (vw (l.take x)<z)&&decide (z<n))=true:=by rw[HC,HS,HS];omega
   rw[this,Bool.true_and]at hx2;exact⟨x+1,⟨by omega,by rw[tX hz];exact hx2⟩,by omega,⟨rfl,(tX hz).symm,rfl,rfl,by rw[zx (by omega) (by omega)];rfl,trivial⟩,trivial⟩
 ·simp only[H4,HH]at hge;have hx2:=hx.2;rw[Fx (by omega),placesF]at hx2;rw[←hx2]
def m9 (a:Sc):IU D:=IT H7 (Hn a)
def VW (a:Int) (b:Sc):Bool:=bif decide (a<0)then true else decide (a>=(↑(IR (m9 b)):Int))
def mz (a:Sc) (b:Nat) (c:IU Int):Int:=pp (Hh a) (HZ b c)
def VV (a:Sc) (b:Int):IU D:=Gl (IB (z1 (m9 a) (IJ b) (0+1+1)) default)
def my (a:Sc):IU D:=IT Hx (Hh a)
def aO (a:Sc):Prop:=(IT H9 (Hk a)=IT H9 (Hk a)/\IT H8 (Hg a)=IT H8 (Hg a)/\IT Hy (Hi a)=IT Hy (Hi a)/\my a=my a/\m9 a=m9 a/\IN)/\IN
def VU (a:IU Int) (b:Nat) (c:Sc):Bool:=bif decide (ro a b>=0)then decide (ro a b<(↑(IR (my c)):Int))else false
def VT (a:IU Int) (b:Nat) (c:Nat):Prop:=IT intD a=IT intD a/\(↑(IR a):Int)=(↑(IR a):Int)/\Hr .i64 ((b:Int)+1)=(c:Int)/\IN
theorem h170 (s:Sc) (k:Int) (hs:s.Fits):IK Tryz.prog G 170 [s.d,.int .i64 k] (· = [.int .i64 (rz s k)]):=by
 rw[zj];obtain⟨L,hL,hLf⟩:∃L:IU Int,(((s.lessons[k.toNat]?).map (·.groups)).getD [])=L/\L.length<1099511627776:=by
  cases hz:s.lessons[k.toNat]? with
  |none=>exact⟨[],rfl,by decide⟩
  |some z=>exact⟨z.groups,rfl,hs.grs z (GS hz)⟩
 refine zu (LL [(5,ze (α:=Nat) Tryz.prog G L0 0 (z8 (z6 Tryz.f170) 0) [2] (λx=>x<=L.length) (λx=>L.length - x) (λx=>[(5,.d (.int .i64 (pp s.groups (L.take x)))),(22,.d (.sl (L.map intD))),(23,.d (.int .i64 L.length)),(24,.d (.int .i64 x))]) (λH _=>H))]) Tryz.func170 ⟨_,rfl⟩ (zt zz) ?_;apply @z7 _ ((VW k s=true->[IP .i64 0]=[IP .i64 (rz s k)])/\(VW k s=false->(0<=k/\(m9 s)[IJ k]? = some (zr [HI,HK,HK] (m9 s) (IJ k)))/\∃(x0:Nat),x0<=IR L/\((IA 0 0=IA 0 0/\0=mz s x0 L/\VV s k=IT intD L/\(↑(IR (VV s k)):Int)=(↑(IR L):Int)/\(0:Int)=(x0:Int)/\IN)/\aO s)/\∀(x:Nat),x<=IR L->(decide ((x:Int)<(↑(IR L):Int))=true->((0:Int)<=(x:Int)/\(IT intD L)[IJ (x:Int)]? = some (IP .i64 (ro L x)))/\(VU L x s=true->(0<=ro L x/\(my s)[IJ (ro L x)]? = some (zr [HI,HX .i64] (my s) (IJ (ro L x))))/\∃(y:Nat),y<=IR L/\IR L - y<IR L - x/\(IA 0 0=IA 0 0/\Hr .i64 (mz s x L+Hf (IB (z1 (my s) (IJ (ro L x)) (0+1)) default))=mz s y L/\VT L x y)/\aO s)/\(VU L x s=false->∃(y:Nat),y<=IR L/\IR L - y<IR L - x/\(IA 0 0=IA 0 0/\mz s x L=mz s y L/\VT L x y)/\aO s))/\(decide ((x:Int)<(↑(IR L):Int))=false->[IP .i64 (mz s x L)]=[IP .i64 (rz s k)])))
 ·kernel_rfl
 delta VW m9 mz VV aO my ro XX Sm VU VT;refine⟨λh=>?_,λh=>?_⟩
 ·rw[H4,zH,F9,HS,HS]at h;rw[rz,Hv h]
 ·rw[H4,zH,E3,HH,HH]at h;obtain⟨z,hz,hm⟩:=zw (l:=s.lessons) (x:=k.toNat) (by omega);have hLz:z.groups=L:=by rw[hz]at hL;exact hL
  have hres:rz s k=pp s.groups L:=by rw[rz,IE (by omega),hL]
  have el (l:IU D):Gl (IB (some (II l)) default)=l:=rfl;rw[uO hz,pt hz,hres,el,hLz];refine⟨⟨by omega,uN hz⟩,0,by omega,⟨⟨rfl,rfl,rfl,by rw[H4],rfl,trivial⟩,⟨rfl,rfl,rfl,rfl,rfl,trivial⟩,trivial⟩,λx hx=>⟨λhlt=>?_,λhge=>?_⟩⟩
  ·simp only[HS]at hlt;obtain⟨y,hy,hym⟩:=zw (l:=L) (x:=x) (by omega);have e0:Hf (IB (some (IP .i64 y)) default)=y:=rfl;have e1 (n:Int):Hf (IB (some (IP .i64 n)) default)=n:=rfl;rw[HF,yK hy,e0,H4,zn];have hg:0<=(x:Int)/\(IT intD L)[x]? = some (IP .i64 y):=⟨by omega,xG hy⟩;have hstep:pp s.groups (L.take (x+1))=ap s.groups (pp s.groups (L.take x)) y:=tW (ap s.groups) 0 hy;refine⟨hg,λh2=>?_,λh2=>?_⟩
   ·rw[HC,HS,HS]at h2;obtain⟨g,hgz,hgm⟩:=zw (l:=s.groups) (x:=y.toNat) (by omega);rw[nM hgz,mA hgz];refine⟨⟨by omega,ke hgz⟩,x+1,by omega,by omega,⟨rfl,?_,rfl,rfl,by rw[zx (by omega) (by omega)];rfl,trivial⟩,⟨rfl,rfl,rfl,rfl,rfl,trivial⟩,trivial⟩;rw[hstep,ap,Hv (by omega),hgz];rfl
   ·rw[FH,HH,HH]at h2;refine⟨x+1,by omega,by omega,⟨rfl,?_,rfl,rfl,by rw[zx (by omega) (by omega)];rfl,trivial⟩,⟨rfl,rfl,rfl,rfl,rfl,trivial⟩,trivial⟩;rw[hstep,ap,IE (by omega)]
  ·simp only[HH]at hge;rw[Gs (by omega)]
end
section
variable {G:Nat->IQ (IU D)}
theorem Ln (a:IU UInt8) (b c:IU D):IK Tryz.prog G 328 [.agg [.str a,.sl b,.sl c]] (· = [.sl b]):=by
 refine zq Tryz.func328 ⟨_,rfl⟩ ?_;apply @z7 _ ([II b]=[II b])
 ·kernel_rfl
 rfl
def uy (a:Int) (b:IU Le):Bool:=bif decide (a>=0)then decide (a<(↑(IR (IT H7 b)):Int))else false
def ux (a:IU Le) (b:Int):D:=zr [HI,HK,HK] (IT H7 a) (IJ b)
theorem Ou (l:IU Le) (i n:Int) (hl:∀x∈l,x.who.length<4611686018427387904):IK Tryz.prog G 327 [.sl (l.map H7),.int .i64 i,.fn 328,.int .i64 n] (· = [.bool (yv l (·.who) i n)]):=by
 have h76:=λl n h=>N6 (G:=G) l n h;refine zq Tryz.func327 ⟨_,rfl⟩ ?_;apply @z7 _ ((uy i l=true->0<=i/\(IT H7 l)[IJ i]? = some (ux l i))/\IK Tryz.prog G 328 [ux l i] λ(rs:IU D)=>∃(l_1:IU D),rs=[II l_1]/\IK Tryz.prog G 76 [II l_1,.int .i64 n] λ(rs:IU D)=>∃(b:Bool),rs=[IL b]/\[IL (bif uy i l then b else false)]=[IL (yv l (λ(x:Le)=>Ay x) i n)])
 ·kernel_rfl
 delta uy ux;cases hz:l[i.toNat]? with
 |some x =>
  rw[uO hz];refine⟨λhg=>⟨G0 (m8 hg).1,uN hz⟩,DB (Ln _ _ _) ⟨_,rfl,(h76 x.who n (hl x (GS hz))).use ⟨_,rfl,?_⟩⟩⟩;unfold yv;rw[hz,zn,zn,H4];rfl
 |none =>
  have hm:(l.map H7)[i.toNat]? = none:=by rw[G5,hz];rfl
  have hn:zr [.str,.sl,.sl] (l.map H7) i.toNat=Hd [.str [],.sl [],.sl []]:=by simp only[zr,Ew,z1,hm];rfl
  rw[hn];refine⟨λhg=>?_,DB (Ln [] [] []) ⟨_,rfl,(h76 [] n (by decide)).use ⟨_,rfl,?_⟩⟩⟩
  ·have h1:=G0 (m8 hg).1;have h2:=G0 (m8 hg).2;rw[H4]at h2;rw[As]at hz;omega
  ·unfold yv;rw[hz,zn,zn,H4];rfl
theorem Lm (a:IU UInt8) (b c:IU D):IK Tryz.prog G 329 [.agg [.str a,.sl b,.sl c]] (· = [.sl c]):=by
 refine zq Tryz.func329 ⟨_,rfl⟩ ?_;apply @z7 _ ([II c]=[II c])
 ·kernel_rfl
 rfl
theorem XW (l:IU Le) (i n:Int) (hl:∀x∈l,x.groups.length<4611686018427387904):IK Tryz.prog G 327 [.sl (l.map H7),.int .i64 i,.fn 329,.int .i64 n] (· = [.bool (yv l (·.groups) i n)]):=by
 have h76:=λl n h=>N6 (G:=G) l n h;refine zq Tryz.func327 ⟨_,rfl⟩ ?_;apply @z7 _ ((uy i l=true->0<=i/\(IT H7 l)[IJ i]? = some (ux l i))/\IK Tryz.prog G 329 [ux l i] λ(rs:IU D)=>∃(l_1:IU D),rs=[II l_1]/\IK Tryz.prog G 76 [II l_1,.int .i64 n] λ(rs:IU D)=>∃(b:Bool),rs=[IL b]/\[IL (bif uy i l then b else false)]=[IL (yv l (λ(x:Le)=>BB x) i n)])
 ·kernel_rfl
 delta uy ux;cases hz:l[i.toNat]? with
 |some x =>
  rw[uO hz];refine⟨λhg=>⟨G0 (m8 hg).1,uN hz⟩,DB (Lm _ _ _) ⟨_,rfl,(h76 x.groups n (hl x (GS hz))).use ⟨_,rfl,?_⟩⟩⟩;unfold yv;rw[hz,zn,zn,H4];rfl
 |none =>
  have hm:(l.map H7)[i.toNat]? = none:=by rw[G5,hz];rfl
  have hn:zr [.str,.sl,.sl] (l.map H7) i.toNat=Hd [.str [],.sl [],.sl []]:=by simp only[zr,Ew,z1,hm];rfl
  rw[hn];refine⟨λhg=>?_,DB (Lm [] [] []) ⟨_,rfl,(h76 [] n (by decide)).use ⟨_,rfl,?_⟩⟩⟩
  ·have h1:=G0 (m8 hg).1;have h2:=G0 (m8 hg).2;rw[H4]at h2;rw[As]at hz;omega
  ·unfold yv;rw[hz,zn,zn,H4];rfl
theorem Ll (a:IU UInt8) (b:IU D):IK Tryz.prog G 331 [.agg [.str a,.sl b]] (· = [.sl b]):=by
 refine zq Tryz.func331 ⟨_,rfl⟩ ?_;apply @z7 _ ([II b]=[II b])
 ·kernel_rfl
 rfl
def pi (a:Int) (b:IU Pe):Bool:=bif decide (a>=0)then decide (a<(↑(IR (IT Hy b)):Int))else false
def ph (a:IU Pe) (b:Int):D:=zr [HI,HK] (IT Hy a) (IJ b)
theorem Rf (l:IU Pe) (i n:Int) (hl:∀x∈l,x.away.length<4611686018427387904):IK Tryz.prog G 330 [.sl (l.map Hy),.int .i64 i,.fn 331,.int .i64 n] (· = [.bool (yv l (·.away) i n)]):=by
 have h76:=λl n h=>N6 (G:=G) l n h;refine zq Tryz.func330 ⟨_,rfl⟩ ?_;apply @z7 _ ((pi i l=true->0<=i/\(IT Hy l)[IJ i]? = some (ph l i))/\IK Tryz.prog G 331 [ph l i] λ(rs:IU D)=>∃(l_1:IU D),rs=[II l_1]/\IK Tryz.prog G 76 [II l_1,.int .i64 n] λ(rs:IU D)=>∃(b:Bool),rs=[IL b]/\[IL (bif pi i l then b else false)]=[IL (yv l (λ(x:Pe)=>Dx x) i n)])
 ·kernel_rfl
 delta pi ph;cases hz:l[i.toNat]? with
 |some x =>
  rw[pu hz];refine⟨λhg=>⟨G0 (m8 hg).1,nN hz⟩,DB (Ll _ _) ⟨_,rfl,(h76 x.away n (hl x (GS hz))).use ⟨_,rfl,?_⟩⟩⟩;unfold yv;rw[hz,zn,zn,H4];rfl
 |none =>
  have hm:(l.map Hy)[i.toNat]? = none:=by rw[G5,hz];rfl
  have hn:zr [.str,.sl] (l.map Hy) i.toNat=Hd [.str [],.sl []]:=by simp only[zr,Ew,z1,hm];rfl
  rw[hn];refine⟨λhg=>?_,DB (Ll [] []) ⟨_,rfl,(h76 [] n (by decide)).use ⟨_,rfl,?_⟩⟩⟩
  ·have h1:=G0 (m8 hg).1;have h2:=G0 (m8 hg).2;rw[H4]at h2;rw[As]at hz;omega
  ·unfold yv;rw[hz,zn,zn,H4];rfl
theorem Lk (a:IU UInt8) (m n:Int) (b:IU D):IK Tryz.prog G 333 [.agg [.str a,.int .i64 m,.int .i64 n,.sl b]] (· = [.sl b]):=by
 refine zq Tryz.func333 ⟨_,rfl⟩ ?_;apply @z7 _ ([II b]=[II b])
 ·kernel_rfl
 rfl
def pg (a:Int) (b:IU Rm):Bool:=bif decide (a>=0)then decide (a<(↑(IR (IT H8 b)):Int))else false
def pf (a:IU Rm) (b:Int):D:=zr [HI,HX .i64,HX .i64,HK] (IT H8 a) (IJ b)
theorem Re (l:IU Rm) (i n:Int) (hl:∀x∈l,x.shut.length<4611686018427387904):IK Tryz.prog G 332 [.sl (l.map H8),.int .i64 i,.fn 333,.int .i64 n] (· = [.bool (yv l (·.shut) i n)]):=by
 have h76:=λl n h=>N6 (G:=G) l n h;refine zq Tryz.func332 ⟨_,rfl⟩ ?_;apply @z7 _ ((pg i l=true->0<=i/\(IT H8 l)[IJ i]? = some (pf l i))/\IK Tryz.prog G 333 [pf l i] λ(rs:IU D)=>∃(l_1:IU D),rs=[II l_1]/\IK Tryz.prog G 76 [II l_1,.int .i64 n] λ(rs:IU D)=>∃(b:Bool),rs=[IL b]/\[IL (bif pg i l then b else false)]=[IL (yv l (λ(x:Rm)=>A9 x) i n)])
 ·kernel_rfl
 delta pg pf;cases hz:l[i.toNat]? with
 |some x =>
  rw[uP hz];refine⟨λhg=>⟨G0 (m8 hg).1,tY hz⟩,DB (Lk _ _ _ _) ⟨_,rfl,(h76 x.shut n (hl x (GS hz))).use ⟨_,rfl,?_⟩⟩⟩;unfold yv;rw[hz,zn,zn,H4];rfl
 |none =>
  have hm:(l.map H8)[i.toNat]? = none:=by rw[G5,hz];rfl
  have hn:zr [.str,.int .i64,.int .i64,.sl] (l.map H8) i.toNat=Hd [.str [],.int .i64 0,.int .i64 0,.sl []]:=by simp only[zr,Ew,z1,hm];rfl
  rw[hn];refine⟨λhg=>?_,DB (Lk [] 0 0 []) ⟨_,rfl,(h76 [] n (by decide)).use ⟨_,rfl,?_⟩⟩⟩
  ·have h1:=G0 (m8 hg).1;have h2:=G0 (m8 hg).2;rw[H4]at h2;rw[As]at hz;omega
  ·unfold yv;rw[hz,zn,zn,H4];rfl
theorem J6 (s:Sc) (a b:Int) (hl:∀x∈s.lessons,x.who.length<4611686018427387904):IK Tryz.prog G 320 [s.d,.int .i64 a,.int .i64 b] (· = [.bool (yv s.lessons (·.who) b a)]):=by
 have hh:=Ou (G:=G) s.lessons b a hl;rw[zj];refine zq Tryz.func320 ⟨_,rfl⟩ ?_;apply @z7 _ (IK Tryz.prog G 327 [II (IT H7 (Hn s)),.int .i64 b,.fn 328,.int .i64 a] λ(rs:IU D)=>∃(b_1:Bool),rs=[IL b_1]/\[IL b_1]=[IL (yv (Hn s) (λ(x:Le)=>Ay x) b a)])
 ·kernel_rfl
 exact hh.use ⟨_,rfl,rfl⟩
theorem J7 (s:Sc) (a b:Int) (hl:∀x∈s.lessons,x.groups.length<4611686018427387904):IK Tryz.prog G 322 [s.d,.int .i64 a,.int .i64 b] (· = [.bool (yv s.lessons (·.groups) b a)]):=by
 have hh:=XW (G:=G) s.lessons b a hl;rw[zj];refine zq Tryz.func322 ⟨_,rfl⟩ ?_;apply @z7 _ (IK Tryz.prog G 327 [II (IT H7 (Hn s)),.int .i64 b,.fn 329,.int .i64 a] λ(rs:IU D)=>∃(b_1:Bool),rs=[IL b_1]/\[IL b_1]=[IL (yv (Hn s) (λ(x:Le)=>BB x) b a)])
 ·kernel_rfl
 exact hh.use ⟨_,rfl,rfl⟩
theorem J8 (s:Sc) (a b:Int) (hl:∀x∈s.people,x.away.length<4611686018427387904):IK Tryz.prog G 324 [s.d,.int .i64 a,.int .i64 b] (· = [.bool (yv s.people (·.away) a b)]):=by
 have hh:=Rf (G:=G) s.people a b hl;rw[zj];refine zq Tryz.func324 ⟨_,rfl⟩ ?_;apply @z7 _ (IK Tryz.prog G 330 [II (IT Hy (Hi s)),.int .i64 a,.fn 331,.int .i64 b] λ(rs:IU D)=>∃(b_1:Bool),rs=[IL b_1]/\[IL b_1]=[IL (yv (Hi s) (λ(x:Pe)=>Dx x) a b)])
 ·kernel_rfl
 exact hh.use ⟨_,rfl,rfl⟩
theorem J9 (s:Sc) (a b:Int) (hl:∀x∈s.rooms,x.shut.length<4611686018427387904):IK Tryz.prog G 326 [s.d,.int .i64 a,.int .i64 b] (· = [.bool (yv s.rooms (·.shut) a b)]):=by
 have hh:=Re (G:=G) s.rooms a b hl;rw[zj];refine zq Tryz.func326 ⟨_,rfl⟩ ?_;apply @z7 _ (IK Tryz.prog G 332 [II (IT H8 (Hg s)),.int .i64 a,.fn 333,.int .i64 b] λ(rs:IU D)=>∃(b_1:Bool),rs=[IL b_1]/\[IL b_1]=[IL (yv (Hg s) (λ(x:Rm)=>A9 x) a b)])
 ·kernel_rfl
 exact hh.use ⟨_,rfl,rfl⟩
end
def tr (nm:Nm):IU Ev->Nat->Int
 |[],_=>-1
 |y::r,i=>if(y.name==nm)=true then(i:Int)else tr nm r (i+1)
theorem aN (nm:Nm):∀(env:IU Ev) (i:Nat),yt (env.map GL) nm=true->∃k:Nat,tr nm env i=((i+k:Nat):Int)/\env[k]? = some (wd env nm)
 |[],_,h=>by cases h
 |y::r,i,h=>by
  by_cases hy:(y.name==nm)=true
  ·refine⟨0,by rw[tr,Hv hy];rfl,?_⟩;have:wd (y::r) nm=y:=by unfold wd;rw[EQ,hy];rfl
   rw[this];rfl
  ·have hy':(y.name==nm)=false:=by simpa using hy
   have hr:yt (r.map GL) nm=true:=by simp only[Gb,yt,E5,F9]at h;exact h.resolve_left hy
   obtain⟨k,h1,h2⟩:=aN nm r (i+1) hr;have:wd (y::r) nm=wd r nm:=by unfold wd;rw[EQ,hy']
   refine⟨k+1,by rw[tr,IE hy,h1];omega,?_⟩;rw[this];exact h2
def hT (t:Tm):IU Box:=[.cells 80 [.d (.int .i64 t.kind),.d (.str t.name),.d (.int .i64 t.n)]]
section
variable {G:Nat->IQ (IU D)}
def sQ (a:Tm):IU Box:=[Hl 80 [.d (.int .i64 (Gh a)),.d (.str (GK a)),.d (.int .i64 (FO a))]]
theorem Jz (t:Tm) (y:Ev):HY Tryz.prog G 171 [.d y.d,.ptr 0 0] (hT t) (λrs H'=>rs=[.bool (y.name==t.name)]/\H'=hT t):=by
 unfold HO;refine zB Tryz.func171 rfl ⟨_,_,rfl,rfl⟩ ?_;apply @z7 _ ([IL (Bp y==GK t)]=[IL (Bp y==GK t)]/\sQ t=sQ t)
 ·kernel_rfl
 delta sQ;exact⟨rfl,rfl⟩
def fD (a:Nat) (b:IU Ev) (c:Tm):Prop:=a<=IR b/\tr (GK c) (GM a b) a=tr (GK c) b 0
def aM (a:IU Ev) (b:Nat):D:=zr [HI,HX .i64,HX .i64] (IT HO a) (IJ (b:Int))
def fC (a:Int) (b:IU UInt8) (c:Int):IU Box:=[Hl 80 [.d (.int .i64 a),.d (.str b),.d (.int .i64 c)]]
theorem h168 (t:Tm) (env:IU Ev) (hl:env.length<4611686018427387904):HY Tryz.prog G 168 [.d (.sl (env.map HO)),.clo 171 [] [.ptr 0 0]] (hT t) (λrs H'=>rs=[.int .i64 (tr t.name env 0)]/\H'=hT t):=by
 refine zZ (LL [(2,ze (α:=Nat) Tryz.prog G L0 1 (z8 (z6 Tryz.f168) 0) [0,1,7] (λi=>i<=env.length/\tr t.name (env.drop i) i=tr t.name env 0) (λi=>env.length - i) (λi=>[(8,.d (.int .i64 i))]) (λH _=>H))]) Tryz.func168 rfl ⟨_,_,rfl,rfl⟩ (zt zz) ?_;apply @z7 _ (∃(x0:Nat),fD x0 env t/\((IT HO env=IT HO env/\Gg 171 [] [IA 0 0]=Gg 171 [] [IA 0 0]/\(↑(IR (IT HO env)):Int)=(↑(IR (IT HO env)):Int)/\(0:Int)=(x0:Int)/\IN)/\(Gh t=Gh t/\GK t=GK t/\FO t=FO t/\IN)/\IN)/\∀(x:Nat),fD x env t->(decide ((x:Int)<(↑(IR (IT HO env)):Int))=true->((0:Int)<=(x:Int)/\(IT HO env)[IJ (x:Int)]? = some (aM env x))/\HY Tryz.prog G 171 [IH (aM env x),.ptr 0 0] (sQ t) λ(rs:IU D) (H':IU Box)=>∃(b:Bool),rs=[IL b]/\∃(n:Int)(s:IU UInt8)(n_1:Int),H'=fC n s n_1/\(b=true->[IP .i64 (x:Int)]=[IP .i64 (tr (GK t) env 0)]/\fC n s n_1=sQ t)/\(b=false->∃(y:Nat),fD y env t/\IR env - y<IR env - x/\(IT HO env=IT HO env/\Gg 171 [] [IA 0 0]=Gg 171 [] [IA 0 0]/\(↑(IR (IT HO env)):Int)=(↑(IR (IT HO env)):Int)/\Hr .i64 ((x:Int)+1)=(y:Int)/\IN)/\(n=Gh t/\s=GK t/\n_1=FO t/\IN)/\IN))/\(decide ((x:Int)<(↑(IR (IT HO env)):Int))=false->[IP .i64 (-1)]=[IP .i64 (tr (GK t) env 0)]/\sQ t=sQ t))
 ·kernel_rfl
 delta fD aM sQ fC;refine⟨0,⟨GD _,rfl⟩,⟨⟨rfl,rfl,rfl,rfl,trivial⟩,⟨rfl,rfl,rfl,trivial⟩,trivial⟩,λx hx=>⟨λhlt=>?_,λhge=>?_⟩⟩
 ·simp only[H4,HS]at hlt;obtain⟨z,hz,hm⟩:=zw (l:=env) (x:=x) (by omega);have hx2:=hx.2;rw[ye hz,tr]at hx2;rw[HF,nL hz];refine⟨⟨by omega,nK hz⟩,(Jz t z).mono ?_⟩;rintro rs H' ⟨rfl,rfl⟩;refine⟨_,rfl,_,_,_,rfl,λhb=>⟨?_,rfl⟩,λhb=>⟨x+1,⟨by omega,?_⟩,by omega,⟨rfl,rfl,rfl,by rw[zx (by omega) (by omega)];rfl,trivial⟩,⟨rfl,rfl,rfl,trivial⟩,trivial⟩⟩
  ·rw[Hv hb]at hx2;rw[hx2]
  ·rw[IE (by simp[hb])]at hx2;exact hx2
 ·simp only[H4,HH]at hge;have hx2:=hx.2;rw[Fx (by omega),tr]at hx2;exact⟨by rw[hx2],rfl⟩
theorem Lj (t:Tm) (env:IU Ev) (hl:env.length<4611686018427387904) (hh:yt (env.map GL) t.name=true):IK Tryz.prog G 139 [.sl (env.map HO),t.d] (· = [.int .i64 (wd env t.name).at_]):=by
 have h168:=h168 (G:=G) t env hl;unfold Hq;refine zq Tryz.func139 ⟨_,rfl⟩ ?_;apply @z7 _ (HY Tryz.prog G 168 [IH (.sl (IT HO env)),.clo 171 [] [IA 0 0]] (sQ t) λ(rs:IU D) (H':IU Box)=>∃(n:Int),rs=[IP .i64 n]/\∃(n_1:Int)(s:IU UInt8)(n_2:Int),H'=fC n_1 s n_2/\(0<=n/\(IT HO env)[IJ n]? = some (zr [HI,HX .i64,HX .i64] (IT HO env) (IJ n)))/\[IP .i64 (Hf (IB (z1 (IT HO env) (IJ n) (0+1+1)) default))]=[IP .i64 (Ev.at_ (wd env (GK t)))])
 ·kernel_rfl
 delta sQ fC fD aM;obtain⟨k,hk,hz⟩:=aN t.name env 0 hh;refine h168.mono ?_;rintro rs H' ⟨rfl,rfl⟩;have hk':tr t.name env 0=(k:Int):=by rw[hk];omega
 refine⟨_,rfl,_,_,_,rfl,?_⟩;rw[hk',HF,nL hz,fq hz];exact⟨⟨by omega,nK hz⟩,rfl⟩
end
def io (s:Sc) (w:IU Pl):D:= .agg [.sl (s.slots.map H9),.sl (s.rooms.map H8),.sl (s.people.map Hy),.sl (s.groups.map Hx),.sl (s.lessons.map H7),.sl (w.map H6)]
def hX (s:Sc) (w:IU Pl) (t:Tm):IU Box:=[.cells 166 [.d (.sl (s.slots.map H9)),.d (.sl (s.rooms.map H8)),.d (.sl (s.people.map Hy)),.d (.sl (s.groups.map Hx)),.d (.sl (s.lessons.map H7)),.d (.sl (w.map H6))],.cells 80 [.d (.int .i64 t.kind),.d (.str t.name),.d (.int .i64 t.n)]]
section
variable {G:Nat->IQ (IU D)}
def sP (a:Sc) (b:IU Pl) (c:Tm):IU Box:=[Hl 166 [.d (.sl (IT H9 (Hk a))),.d (.sl (IT H8 (Hg a))),.d (.sl (IT Hy (Hi a))),.d (.sl (IT Hx (Hh a))),.d (.sl (IT H7 (Hn a))),.d (.sl (IT H6 b))],.cells 80 [.d (.int .i64 (Gh c)),.d (.str (GK c)),.d (.int .i64 (FO c))]]
theorem Jy (s:Sc) (w:IU Pl) (t:Tm) (y:Ev):HY Tryz.prog G 169 [.d y.d,.ptr 1 0] (hX s w t) (λrs H'=>rs=[.bool (y.name==t.name)]/\H'=hX s w t):=by
 unfold HO;refine zB Tryz.func169 rfl ⟨_,_,rfl,rfl⟩ ?_;apply @z7 _ ([IL (Bp y==GK t)]=[IL (Bp y==GK t)]/\sP s w t=sP s w t)
 ·kernel_rfl
 delta sP;exact⟨rfl,rfl⟩
def lj (a:Nat) (b:IU Ev) (c:Tm):Prop:=a<=IR b/\tr (GK c) (GM a b) a=tr (GK c) b 0
def im (a:IU Ev) (b:Nat):D:=zr [HI,HX .i64,HX .i64] (IT HO a) (IJ (b:Int))
def li (a:IU D) (b:IU D) (c:IU D) (d:IU D) (e:IU D) (f:IU D) (g:Int) (h:IU UInt8) (i:Int):IU Box:=[Hl 166 [.d (.sl a),.d (.sl b),.d (.sl c),.d (.sl d),.d (.sl e),.d (.sl f)],.cells 80 [.d (.int .i64 g),.d (.str h),.d (.int .i64 i)]]
theorem Li (s:Sc) (w:IU Pl) (t:Tm) (env:IU Ev) (hl:env.length<4611686018427387904):HY Tryz.prog G 168 [.d (.sl (env.map HO)),.clo 169 [] [.ptr 1 0]] (hX s w t) (λrs H'=>rs=[.int .i64 (tr t.name env 0)]/\H'=hX s w t):=by
 refine zZ (LL [(2,ze (α:=Nat) Tryz.prog G L0 2 (z8 (z6 Tryz.f168) 0) [0,1,7] (λi=>i<=env.length/\tr t.name (env.drop i) i=tr t.name env 0) (λi=>env.length - i) (λi=>[(8,.d (.int .i64 i))]) (λH _=>H))]) Tryz.func168 rfl ⟨_,_,rfl,rfl⟩ (zt zz) ?_;apply @z7 _ (∃(x0:Nat),lj x0 env t/\((IT HO env=IT HO env/\Gg 169 [] [IA 1 0]=Gg 169 [] [IA 1 0]/\(↑(IR (IT HO env)):Int)=(↑(IR (IT HO env)):Int)/\(0:Int)=(x0:Int)/\IN)/\(IT H9 (Hk s)=IT H9 (Hk s)/\IT H8 (Hg s)=IT H8 (Hg s)/\IT Hy (Hi s)=IT Hy (Hi s)/\IT Hx (Hh s)=IT Hx (Hh s)/\IT H7 (Hn s)=IT H7 (Hn s)/\IT H6 w=IT H6 w/\IN)/\(Gh t=Gh t/\GK t=GK t/\FO t=FO t/\IN)/\IN)/\∀(x:Nat),lj x env t->(decide ((x:Int)<(↑(IR (IT HO env)):Int))=true->((0:Int)<=(x:Int)/\(IT HO env)[IJ (x:Int)]? = some (im env x))/\HY Tryz.prog G 169 [IH (im env x),.ptr 1 0] (sP s w t) λ(rs:IU D) (H':IU Box)=>∃(b:Bool),rs=[IL b]/\∃(l:IU D)(l_1:IU D)(l_2:IU D)(l_3:IU D)(l_4:IU D)(l_5:IU D)(n:Int)(s_1:IU UInt8)(n_1:Int),H'=li l l_1 l_2 l_3 l_4 l_5 n s_1 n_1/\(b=true->[IP .i64 (x:Int)]=[IP .i64 (tr (GK t) env 0)]/\li l l_1 l_2 l_3 l_4 l_5 n s_1 n_1=sP s w t)/\(b=false->∃(y:Nat),lj y env t/\IR env - y<IR env - x/\(IT HO env=IT HO env/\Gg 169 [] [IA 1 0]=Gg 169 [] [IA 1 0]/\(↑(IR (IT HO env)):Int)=(↑(IR (IT HO env)):Int)/\Hr .i64 ((x:Int)+1)=(y:Int)/\IN)/\(l=IT H9 (Hk s)/\l_1=IT H8 (Hg s)/\l_2=IT Hy (Hi s)/\l_3=IT Hx (Hh s)/\l_4=IT H7 (Hn s)/\l_5=IT H6 w/\IN)/\(n=Gh t/\s_1=GK t/\n_1=FO t/\IN)/\IN))/\(decide ((x:Int)<(↑(IR (IT HO env)):Int))=false->[IP .i64 (-1)]=[IP .i64 (tr (GK t) env 0)]/\sP s w t=sP s w t))
 ·kernel_rfl
 delta lj im sP li;refine⟨0,⟨GD _,rfl⟩,⟨⟨rfl,rfl,rfl,rfl,trivial⟩,⟨rfl,rfl,rfl,rfl,rfl,rfl,trivial⟩,⟨rfl,rfl,rfl,trivial⟩,trivial⟩,λx hx=>⟨λhlt=>?_,λhge=>?_⟩⟩
 ·simp only[H4,HS]at hlt;obtain⟨z,hz,hm⟩:=zw (l:=env) (x:=x) (by omega);have hx2:=hx.2;rw[ye hz,tr]at hx2;rw[HF,nL hz];refine⟨⟨by omega,nK hz⟩,(Jy s w t z).mono ?_⟩;rintro rs H' ⟨rfl,rfl⟩;refine⟨_,rfl,_,_,_,_,_,_,_,_,_,rfl,λhb=>⟨?_,rfl⟩,λhb=>⟨x+1,⟨by omega,?_⟩,by omega,⟨rfl,rfl,rfl,by rw[zx (by omega) (by omega)];rfl,trivial⟩,⟨rfl,rfl,rfl,rfl,rfl,rfl,trivial⟩,⟨rfl,rfl,rfl,trivial⟩,trivial⟩⟩
  ·rw[Hv hb]at hx2;rw[hx2]
  ·rw[IE (by simp[hb])]at hx2;exact hx2
 ·simp only[H4,HH]at hge;have hx2:=hx.2;rw[Fx (by omega),tr]at hx2;exact⟨by rw[hx2],rfl⟩
def q9 (a:Sc) (b:IU Ev) (c:Tm):IU D:=[IP .i64 (tu a (wd b (GK c)) c)]
def h138q9:IU Sh:=[HI,HX .i64,HX .i64]
def uq (a:IU Ev) (b:Int):Int:=Hf (IB (z1 (IT HO a) (IJ b) (0+1+1)) default)
def VS (a:IU Ev) (b:Int):Prop:=0<=uq a b
def aL (a:IU Ev) (b:Int) (c:IU D):Prop:=VS a b/\c[IJ (uq a b)]? = some (zr h138q9 c (IJ (uq a b)))
def VR (a:IU D) (b:IU Ev) (c:Int):Int:=Hf (IB (z1 a (IJ (uq b c)) (0+1)) default)
def VQ (a:IU D) (b:IU Ev) (c:Int) (d:Sc) (e:Tm):Prop:=[IP .i64 (VR a b c)]=q9 d b e
def VP (a:IU D) (b:IU Ev) (c:Int):Int:=Hf (IB (z1 a (IJ (uq b c)) (0+1+1)) default)
def VO (a:IU D) (b:IU Ev) (c:Int) (d:Sc) (e:Tm):Prop:=[IP .i64 (VP a b c)]=q9 d b e
def VN (a:IU Ev) (b:Int) (c:IU D):Prop:=VS a b/\c[IJ (uq a b)]? = some (zr [HI,HX .i64,HX .i64,HK] c (IJ (uq a b)))
def VM (a:IU Ev) (b:Int):Bool:=Hf (IB (z1 (IT HO a) (IJ b) (0+1)) default)==2
theorem h138 (s:Sc) (w:IU Pl) (env:IU Ev) (t:Tm) (hs:s.Fits) (hl:env.length<4611686018427387904) (hh:t.kind≠1->yt (env.map GL) t.name=true) (hv:ValOk s (wd env t.name) t):IK Tryz.prog G 138 [io s w,.sl (env.map HO),t.d] (· = [.int .i64 (tu s (wd env t.name) t)]):=by
 have h170:=λk=>h170 (G:=G) s k hs;have h168:=Li (G:=G) s w t env hl;rw[zj]at *;unfold Hq io;refine zq Tryz.func138 ⟨_,rfl⟩ ?_;apply @z7 _ (((Gh t==1)=true->[IP .i64 (FO t)]=q9 s env t)/\((Gh t==1)=false->HY Tryz.prog G 168 [IH (.sl (IT HO env)),.clo 169 [] [IA 1 0]] (sP s w t) λ(rs:IU D) (H':IU Box)=>∃(n:Int),rs=[IP .i64 n]/\∃(l:IU D)(l_1:IU D)(l_2:IU D)(l_3:IU D)(l_4:IU D)(l_5:IU D)(n_1:Int)(s_1:IU UInt8)(n_2:Int),H'=li l l_1 l_2 l_3 l_4 l_5 n_1 s_1 n_2/\(0<=n/\(IT HO env)[IJ n]? = some (zr h138q9 (IT HO env) (IJ n)))/\((n_1==3)=true->aL env n l/\VQ l env n s t)/\((n_1==3)=false->((n_1==4)=true->aL env n l/\VO l env n s t)/\((n_1==4)=false->((n_1==5)=true->VN env n l_1/\VQ l_1 env n s t)/\((n_1==5)=false->((n_1==6)=true->VN env n l_1/\VO l_1 env n s t)/\((n_1 == 6)=false->((n_1==7)=true->IK Tryz.prog G 170 [Hd [.sl l,.sl l_1,.sl l_2,.sl l_3,.sl l_4],.int .i64 (uq env n)] λ(rs:IU D)=>∃(n:Int),rs=[IP .i64 n]/\[IP .i64 n]=q9 s env t)/\((n_1==7)=false->(VM env n=true->aL env n l/\[IP .i64 (Hr .i64 (Hr .i64 (VR l env n*12)+VP l env n))]=q9 s env t)/\(VM env n=false->[IP .i64 (uq env n)]=q9 s env t))))))))
 ·kernel_rfl
 delta q9 sP li lj im h138q9 aL VS uq VQ VR VO VP VN VM;have b1:∀(k n:Int),(k==n)=true->k=n:=λk n h=>beq_iff_eq.1 h;have b2:∀(k n:Int),(k==n)=false->¬ k=n:=λk n h e=>by rw[e]at h;simp at h
 have ei (n:Int):Hf (IB (some (IP .i64 n)) default)=n:=rfl;refine⟨λh=>by rw[tu,Hv (b1 _ _ h)],λk1=>?_⟩;have k1:=b2 _ _ k1;obtain⟨k,hk,hz⟩:=aN t.name env 0 (hh k1);have hk':tr t.name env 0=(k:Int):=by rw[hk];omega
 refine h168.mono ?_;rintro rs H' ⟨rfl,rfl⟩;refine⟨_,rfl,_,_,_,_,_,_,_,_,_,rfl,?_⟩;rw[hk',HF,nL hz,fq hz,ly hz,ei,ei];generalize hx:wd env t.name=x at hz hv;have sl:Km s x.at_->∃z,s.slots[x.at_.toNat]? = some z/\pk s x.at_=z:=λh=>by obtain⟨h0,h1⟩:=h;obtain⟨z,hz,_⟩:=zw (l:=s.slots) (x:=x.at_.toNat) (by omega);exact⟨z,hz,by unfold pk;rw[hz];rfl⟩
 have rm:J2 s x.at_->∃z,s.rooms[x.at_.toNat]? = some z/\kR s x.at_=z:=λh=>by obtain⟨h0,h1⟩:=h;obtain⟨z,hz,_⟩:=zw (l:=s.rooms) (x:=x.at_.toNat) (by omega);exact⟨z,hz,by unfold kR;rw[hz];rfl⟩
 refine⟨⟨by omega,nK hz⟩,λh=>?_,λk3=>⟨λh=>?_,λk4=>⟨λh=>?_,λk5=>⟨λh=>?_,λk6=>⟨λh=>?_,λk7=>⟨λh=>?_,λk8=>?_⟩⟩⟩⟩⟩⟩
 ·have h:=b1 _ _ h;have hi:=hv.sl (.inl h);obtain⟨z,hz,e⟩:=sl hi;rw[uR hz,vj hz,ei,tu,IE k1,Hv h,e];exact⟨⟨hi.1,uQ hz⟩,rfl⟩
 ·have h:=b1 _ _ h;have hi:=hv.sl (.inr h);obtain⟨z,hz,e⟩:=sl hi;rw[uR hz,vi hz,ei,tu,IE k1,IE (b2 _ _ k3),Hv h,e];exact⟨⟨hi.1,uQ hz⟩,rfl⟩
 ·have h:=b1 _ _ h;have hi:=hv.rm (.inl h);obtain⟨z,hz,e⟩:=rm hi;rw[uP hz,mC hz,ei,tu,IE k1,IE (b2 _ _ k3),IE (b2 _ _ k4),Hv h,e];exact⟨⟨hi.1,tY hz⟩,rfl⟩
 ·have h:=b1 _ _ h;have hi:=hv.rm (.inr h);obtain⟨z,hz,e⟩:=rm hi;rw[uP hz,mB hz,ei,tu,IE k1,IE (b2 _ _ k3),IE (b2 _ _ k4),IE (b2 _ _ k5),Hv h,e];exact⟨⟨hi.1,tY hz⟩,rfl⟩
 ·refine(h170 x.at_).use ⟨_,rfl,?_⟩;rw[tu,IE k1,IE (b2 _ _ k3),IE (b2 _ _ k4),IE (b2 _ _ k5),IE (b2 _ _ k6),Hv (b1 _ _ h)]
 ·have h:=b1 _ _ h;have hi:=hv.sv k1 (b2 _ _ k3) (b2 _ _ k4) (b2 _ _ k5) (b2 _ _ k6) (b2 _ _ k7) h;obtain⟨z,hz,e⟩:=sl hi;rw[uR hz,vj hz,vi hz,ei,ei,tu,IE k1,IE (b2 _ _ k3),IE (b2 _ _ k4),IE (b2 _ _ k5),IE (b2 _ _ k6),IE (b2 _ _ k7),Hv h,e,zyO];exact⟨⟨hi.1,uQ hz⟩,rfl⟩
 ·rw[tu,IE k1,IE (b2 _ _ k3),IE (b2 _ _ k4),IE (b2 _ _ k5),IE (b2 _ _ k6),IE (b2 _ _ k7),IE (b2 _ _ k8)]
end
section
variable {G:Nat->IQ (IU D)}
end
section
variable {G:Nat->IQ (IU D)}
def Ot (a:Int) (b:Sc):AV:=Gg 94 [] [GO [.int .i64 a],.iptr [.sl (IT H9 (Hk b)),.sl (IT H8 (Hg b)),.sl (IT Hy (Hi b)),.sl (IT Hx (Hh b)),.sl (IT H7 (Hn b))]]
theorem h56 (s:Sc) (k:Int):PFnA Tryz.prog G 56 [s.d,.int .i64 k] (· = .clo 94 [] [.iptr [.int .i64 k],.iptr [.sl (s.slots.map H9),.sl (s.rooms.map H8),.sl (s.people.map Hy),.sl (s.groups.map Hx),.sl (s.lessons.map H7)]]):=by
 rw[zj];refine Bv (fn:=Tryz.f56) (code:=z6 Tryz.f56) mixed L0 Tryz.func56 (by kernel_rfl) tw ?_;apply @z7 _ (Ot k s=Ot k s)
 ·kernel_rfl
 delta Ot;rfl
end
section
variable {G:Nat->IQ (IU D)}
def nh (s:Sc):IU AV:=[.d (.sl (s.slots.map H9)),.d (.sl (s.rooms.map H8)),.d (.sl (s.people.map Hy)),.d (.sl (s.groups.map Hx)),.d (.sl (s.lessons.map H7))]
def c158:He:=unScope (z8 (z6 Tryz.f158) 0)
def tm158:IU AV:=[.any,.any,.any,.any,.any,.ptr 1 0,.any,.any,.any,.any,.any,.any,.any,.any]
def hC (s:Sc) (n:Int):IU Box:=[.cells 28 (nh s),.cells 3 [.d (.int .i64 n)],.loop tm158 (zY c158) (zk c158) (zX c158) none .ready]
def Mn (a:Sc) (b:Int):IU Box:=[Hl 28 [.d (.sl (IT H9 (Hk a))),.d (.sl (IT H8 (Hg a))),.d (.sl (IT Hy (Hi a))),.d (.sl (IT Hx (Hh a))),.d (.sl (IT H7 (Hn a)))],.cells 3 [.d (.int .i64 (Hr .i64 (b+1)))],.loop [IM,.any,.any,.any,.any,.ptr 1 0,.any,.any,.any,.any,.any,.any,.any,.any] (zY c158) (zk c158) (zX c158) none GY]
theorem Rd (s:Sc) (i n:Int) (nm:Nm):Gi Tryz.prog G 2 [.d (.int .i64 i),.d (.str nm)] (hC s n) (λrs H'=>rs=[.bool true]/\H'=hC s (Hr .i64 (n+1))):=by
 refine DW (tm:=tm158) (ps:=zY c158) (asn:=zk c158) (bd:=zX c158) mixed L0 rfl (by kernel_rfl) rfl rfl ⟨_,_,rfl,rfl⟩ (λ_=>ns (by kernel_rfl)) (λ_=>ns (by kernel_rfl)) ?_;apply @z7 _ ([IL true]=[IL true]/\Mn s n=Mn s n)
 ·kernel_rfl
 delta Mn;exact⟨rfl,rfl⟩
theorem I5 (x:Le):IK Tryz.prog G 96 [x.d] (· = [.str x.name]):=by
 unfold H7;refine zq Tryz.func96 ⟨_,rfl⟩ ?_;apply @z7 _ ([HW (Le.name x)]=[HW (Le.name x)])
 ·kernel_rfl
 trivial
theorem I6 (x:Sl):IK Tryz.prog G 98 [x.d] (· = [.str x.name]):=by
 unfold H9;refine zq Tryz.func98 ⟨_,rfl⟩ ?_;apply @z7 _ ([HW (Sl.name x)]=[HW (Sl.name x)])
 ·kernel_rfl
 trivial
theorem Lh (x:Rm):IK Tryz.prog G 100 [x.d] (· = [.str x.name]):=by
 unfold H8;refine zq Tryz.func100 ⟨_,rfl⟩ ?_;apply @z7 _ ([HW (Rm.name x)]=[HW (Rm.name x)])
 ·kernel_rfl
 trivial
theorem Lg (x:Pe):IK Tryz.prog G 102 [x.d] (· = [.str x.name]):=by
 unfold Hy;refine zq Tryz.func102 ⟨_,rfl⟩ ?_;apply @z7 _ ([HW (Pe.name x)]=[HW (Pe.name x)])
 ·kernel_rfl
 trivial
theorem Lf (x:Gr):IK Tryz.prog G 104 [x.d] (· = [.str x.name]):=by
 unfold Hx;refine zq Tryz.func104 ⟨_,rfl⟩ ?_;apply @z7 _ ([HW (Gr.name x)]=[HW (Gr.name x)])
 ·kernel_rfl
 trivial
def h95Cq8:IU AV:=[IM,.any,.any,.any,.any,.ptr 1 0,.any,.any,.any,.any,.any,.any,.any,.any]
def h95Cq6:Box:=Gz h95Cq8 (zY c158) (zk c158) (zX c158) none GY
def uJ (a:IU Le) (b:Nat):D:=zr [HI,HK,HK] (IT H7 a) (IJ (b:Int))
def h95Cq1 (a:Sc):Box:=Hl 28 [.d (.sl (IT H9 (Hk a))),.d (.sl (IT H8 (Hg a))),.d (.sl (IT Hy (Hi a))),.d (.sl (IT Hx (Hh a))),.d (.sl (IT H7 (Hn a)))]
def x6 (a:Sc) (b:Int) (c:Nat):IU Box:=[h95Cq1 a,.cells 3 [.d (.int .i64 (b+(c:Int)))],h95Cq6]
def xt (a:IU D) (b:IU D) (c:IU D) (d:IU D) (e:IU D) (f:Int) (g:IQ He) (h:HJ):IU Box:=[Hl 28 [.d (.sl a),.d (.sl b),.d (.sl c),.d (.sl d),.d (.sl e)],.cells 3 [.d (.int .i64 f)],.loop h95Cq8 (zY c158) (zk c158) (zX c158) g h]
def uI (a:Sc) (b:Int) (c:IU Le):IU Box:=[h95Cq1 a,.cells 3 [.d (.int .i64 (b+(↑(IR c):Int)))],h95Cq6]
def uH (a:IU D) (b:IU Box) (c:Sc) (d:Int) (e:IU Le) (f:Nat):Prop:= ∃(b_1:Bool),a=[IL b_1]/\∃(l:IU D)(l_1:IU D)(l_2:IU D)(l_3:IU D)(l_4:IU D)(n:Int)(pend:IQ He)(st:HJ),b=xt l l_1 l_2 l_3 l_4 n pend st/\((!b_1)=true->([]:IU D)=[]/\xt l l_1 l_2 l_3 l_4 n pend st=uI c d e)/\((!b_1)=false->∃(y:Nat),y<=IR e/\IR e - y<IR e - f/\(IH (.fn 96)=IH (.fn 96)/\G2 2=G2 2/\IT H7 e=IT H7 e/\(↑(IR (IT H7 e)):Int)=(↑(IR (IT H7 e)):Int)/\Hr .i64 ((f:Int)+1)=(y:Int)/\IN)/\(l=IT H9 (Hk c)/\l_1=IT H8 (Hg c)/\l_2=IT Hy (Hi c)/\l_3=IT Hx (Hh c)/\l_4=IT H7 (Hn c)/\IN)/\(n=d+(y:Int)/\IN)/\Gz h95Cq8 (zY c158) (zk c158) (zX c158) pend st=h95Cq6/\IN)
theorem Jx (s:Sc) (l:IU Le) (n:Int) (h0:0<=n) (hl:l.length<1099511627776) (hk:n+l.length<4611686018427387904):HY Tryz.prog G 95 [.d (.sl (l.map H7)),.d (.fn 96),.yld 2] (hC s n) (λrs H'=>rs=[]/\H'=hC s (n+l.length)):=by
 refine zZ (LL [(1,ze (α:=Nat) Tryz.prog G L0 3 (z8 (z6 Tryz.f95) 0) [1,2,9,10] (λi=>i<=l.length) (λi=>l.length - i) (λi=>[(11,.d (.int .i64 i))]) (λH i=>hC s (n+i)++H.drop 3))]) Tryz.func95 rfl ⟨[],_,rfl,rfl⟩ (zt zz) ?_;apply @z7 _ (∃(x0:Nat),x0<=IR l/\((IH (.fn 96)=IH (.fn 96)/\G2 2=G2 2/\IT H7 l=IT H7 l/\(↑(IR (IT H7 l)):Int)=(↑(IR (IT H7 l)):Int)/\(0:Int)=(x0:Int)/\IN)/\(IT H9 (Hk s)=IT H9 (Hk s)/\IT H8 (Hg s)=IT H8 (Hg s)/\IT Hy (Hi s)=IT Hy (Hi s)/\IT Hx (Hh s)=IT Hx (Hh s)/\IT H7 (Hn s)=IT H7 (Hn s)/\IN)/\(n=n+(x0:Int)/\IN)/\h95Cq6=h95Cq6/\IN)/\∀(x:Nat),x<=IR l->(decide ((x:Int)<(↑(IR (IT H7 l)):Int))=true->((0:Int)<=(x:Int)/\(IT H7 l)[IJ (x:Int)]? = some (uJ l x))/\((!false)=true->IK Tryz.prog G 96 [uJ l x] λ(rs:IU D)=>∃(s_1:IU UInt8),rs=[HW s_1]/\Gi Tryz.prog G 2 [IH (.int .i64 (x:Int)),.d (.str s_1)] (x6 s n x) λ(rs:IU D) (H':IU Box)=>uH rs H' s n l x)/\((!false)=false->Gi Tryz.prog G 2 [IH (.int .i64 (x:Int)),.d (.str (Gx (Gy (Gu #[]))))] (x6 s n x) λ(rs:IU D) (H':IU Box)=>uH rs H' s n l x))/\(decide ((x:Int)<(↑(IR (IT H7 l)):Int))=false->([]:IU D)=[]/\x6 s n x=uI s n l))
 ·kernel_rfl
 delta h95Cq6 h95Cq8 uJ x6 h95Cq1 uH xt uI;refine⟨0,by omega,⟨⟨rfl,rfl,rfl,rfl,rfl,trivial⟩,⟨rfl,rfl,rfl,rfl,rfl,trivial⟩,⟨by simp,trivial⟩,rfl,trivial⟩,λi hi=>⟨λhlt=>?_,λhge=>?_⟩⟩
 ·simp only[H4,HS]at hlt;obtain⟨z,hz,hm⟩:=zw (l:=l) (x:=i) (by omega);rw[HF,uO hz];refine⟨⟨by omega,by simp[hz]⟩,λ_=>(I5 z).mono ?_,λh=>Hu h (by decide)⟩;rintro _ rfl;refine⟨_,rfl,(Rd s i (n+i) z.name).mono ?_⟩;rintro rs H' ⟨rfl,rfl⟩;exact⟨true,rfl,_,_,_,_,_,_,_,_,rfl,λh=>Hu h (by decide),λ_=>⟨i+1,by omega,by omega,⟨rfl,rfl,rfl,rfl,by rw[zx (by omega) (by omega)];simp,trivial⟩,⟨rfl,rfl,rfl,rfl,rfl,trivial⟩,⟨by rw[zx (by omega) (by omega)];simp;omega,trivial⟩,rfl,trivial⟩⟩
 ·simp only[H4,HH]at hge;have e:i=l.length:=by omega
  rw[e];exact⟨rfl,rfl⟩
def VL (a:IU Sl) (b:Nat):D:=zr [HI,HX .i64,HX .i64] (IT H9 a) (IJ (b:Int))
def VK (a:Sc) (b:Int) (c:IU Sl):IU Box:=[h95Cq1 a,.cells 3 [.d (.int .i64 (b+(↑(IR c):Int)))],h95Cq6]
def VJ (a:IU D) (b:IU Box) (c:Sc) (d:Int) (e:IU Sl) (f:Nat):Prop:= ∃(b_1:Bool),a=[IL b_1]/\∃(l:IU D)(l_1:IU D)(l_2:IU D)(l_3:IU D)(l_4:IU D)(n:Int)(pend:IQ He)(st:HJ),b=xt l l_1 l_2 l_3 l_4 n pend st/\((!b_1)=true->([]:IU D)=[]/\xt l l_1 l_2 l_3 l_4 n pend st=VK c d e)/\((!b_1)=false->∃(y:Nat),y<=IR e/\IR e - y<IR e - f/\(IH (.fn 98)=IH (.fn 98)/\G2 2=G2 2/\IT H9 e=IT H9 e/\(↑(IR (IT H9 e)):Int)=(↑(IR (IT H9 e)):Int)/\Hr .i64 ((f:Int)+1)=(y:Int)/\IN)/\(l=IT H9 (Hk c)/\l_1=IT H8 (Hg c)/\l_2=IT Hy (Hi c)/\l_3=IT Hx (Hh c)/\l_4=IT H7 (Hn c)/\IN)/\(n=d+(y:Int)/\IN)/\Gz h95Cq8 (zY c158) (zk c158) (zX c158) pend st=h95Cq6/\IN)
theorem Jw (s:Sc) (l:IU Sl) (n:Int) (h0:0<=n) (hl:l.length<1099511627776) (hk:n+l.length<4611686018427387904):HY Tryz.prog G 97 [.d (.sl (l.map H9)),.d (.fn 98),.yld 2] (hC s n) (λrs H'=>rs=[]/\H'=hC s (n+l.length)):=by
 refine zZ (LL [(1,ze (α:=Nat) Tryz.prog G L0 3 (z8 (z6 Tryz.f97) 0) [1,2,9,10] (λi=>i<=l.length) (λi=>l.length - i) (λi=>[(11,.d (.int .i64 i))]) (λH i=>hC s (n+i)++H.drop 3))]) Tryz.func97 rfl ⟨[],_,rfl,rfl⟩ (zt zz) ?_;apply @z7 _ (∃(x0:Nat),x0<=IR l/\((IH (.fn 98)=IH (.fn 98)/\G2 2=G2 2/\IT H9 l=IT H9 l/\(↑(IR (IT H9 l)):Int)=(↑(IR (IT H9 l)):Int)/\(0:Int)=(x0:Int)/\IN)/\(IT H9 (Hk s)=IT H9 (Hk s)/\IT H8 (Hg s)=IT H8 (Hg s)/\IT Hy (Hi s)=IT Hy (Hi s)/\IT Hx (Hh s)=IT Hx (Hh s)/\IT H7 (Hn s)=IT H7 (Hn s)/\IN)/\(n=n+(x0:Int)/\IN)/\h95Cq6=h95Cq6/\IN)/\∀(x:Nat),x<=IR l->(decide ((x:Int)<(↑(IR (IT H9 l)):Int))=true->((0:Int)<=(x:Int)/\(IT H9 l)[IJ (x:Int)]? = some (VL l x))/\((!false)=true->IK Tryz.prog G 98 [VL l x] λ(rs:IU D)=>∃(s_1:IU UInt8),rs=[HW s_1]/\Gi Tryz.prog G 2 [IH (.int .i64 (x:Int)),.d (.str s_1)] (x6 s n x) λ(rs:IU D) (H':IU Box)=>VJ rs H' s n l x)/\((!false)=false->Gi Tryz.prog G 2 [IH (.int .i64 (x:Int)),.d (.str (Gx (Gy (Gu #[]))))] (x6 s n x) λ(rs:IU D) (H':IU Box)=>VJ rs H' s n l x))/\(decide ((x:Int)<(↑(IR (IT H9 l)):Int))=false->([]:IU D)=[]/\x6 s n x=VK s n l))
 ·kernel_rfl
 delta h95Cq6 h95Cq8 uJ x6 h95Cq1 uH xt uI VL VJ VK;refine⟨0,by omega,⟨⟨rfl,rfl,rfl,rfl,rfl,trivial⟩,⟨rfl,rfl,rfl,rfl,rfl,trivial⟩,⟨by simp,trivial⟩,rfl,trivial⟩,λi hi=>⟨λhlt=>?_,λhge=>?_⟩⟩
 ·simp only[H4,HS]at hlt;obtain⟨z,hz,hm⟩:=zw (l:=l) (x:=i) (by omega);rw[HF,uR hz];refine⟨⟨by omega,by simp[hz]⟩,λ_=>(I6 z).mono ?_,λh=>Hu h (by decide)⟩;rintro _ rfl;refine⟨_,rfl,(Rd s i (n+i) z.name).mono ?_⟩;rintro rs H' ⟨rfl,rfl⟩;exact⟨true,rfl,_,_,_,_,_,_,_,_,rfl,λh=>Hu h (by decide),λ_=>⟨i+1,by omega,by omega,⟨rfl,rfl,rfl,rfl,by rw[zx (by omega) (by omega)];simp,trivial⟩,⟨rfl,rfl,rfl,rfl,rfl,trivial⟩,⟨by rw[zx (by omega) (by omega)];simp;omega,trivial⟩,rfl,trivial⟩⟩
 ·simp only[H4,HH]at hge;have e:i=l.length:=by omega
  rw[e];exact⟨rfl,rfl⟩
def VI (a:IU Rm) (b:Nat):D:=zr [HI,HX .i64,HX .i64,HK] (IT H8 a) (IJ (b:Int))
def VH (a:Sc) (b:Int) (c:IU Rm):IU Box:=[h95Cq1 a,.cells 3 [.d (.int .i64 (b+(↑(IR c):Int)))],h95Cq6]
def VG (a:IU D) (b:IU Box) (c:Sc) (d:Int) (e:IU Rm) (f:Nat):Prop:= ∃(b_1:Bool),a=[IL b_1]/\∃(l:IU D)(l_1:IU D)(l_2:IU D)(l_3:IU D)(l_4:IU D)(n:Int)(pend:IQ He)(st:HJ),b=xt l l_1 l_2 l_3 l_4 n pend st/\((!b_1)=true->([]:IU D)=[]/\xt l l_1 l_2 l_3 l_4 n pend st=VH c d e)/\((!b_1)=false->∃(y:Nat),y<=IR e/\IR e - y<IR e - f/\(IH (.fn 100)=IH (.fn 100)/\G2 2=G2 2/\IT H8 e=IT H8 e/\(↑(IR (IT H8 e)):Int)=(↑(IR (IT H8 e)):Int)/\Hr .i64 ((f:Int)+1)=(y:Int)/\IN)/\(l=IT H9 (Hk c)/\l_1=IT H8 (Hg c)/\l_2=IT Hy (Hi c)/\l_3=IT Hx (Hh c)/\l_4 = IT H7 (Hn c)/\IN)/\(n=d+(y:Int)/\IN)/\Gz h95Cq8 (zY c158) (zk c158) (zX c158) pend st=h95Cq6/\IN)
theorem Jv (s:Sc) (l:IU Rm) (n:Int) (h0:0<=n) (hl:l.length<1099511627776) (hk:n+l.length<4611686018427387904):HY Tryz.prog G 99 [.d (.sl (l.map H8)),.d (.fn 100),.yld 2] (hC s n) (λrs H'=>rs=[]/\H'=hC s (n+l.length)):=by
 refine zZ (LL [(1,ze (α:=Nat) Tryz.prog G L0 3 (z8 (z6 Tryz.f99) 0) [1,2,9,10] (λi=>i<=l.length) (λi=>l.length - i) (λi=>[(11,.d (.int .i64 i))]) (λH i=>hC s (n+i)++H.drop 3))]) Tryz.func99 rfl ⟨[],_,rfl,rfl⟩ (zt zz) ?_;apply @z7 _ (∃(x0:Nat),x0<=IR l/\((IH (.fn 100)=IH (.fn 100)/\G2 2=G2 2/\IT H8 l=IT H8 l/\(↑(IR (IT H8 l)):Int)=(↑(IR (IT H8 l)):Int)/\(0:Int)=(x0:Int)/\IN)/\(IT H9 (Hk s)=IT H9 (Hk s)/\IT H8 (Hg s)=IT H8 (Hg s)/\IT Hy (Hi s)=IT Hy (Hi s)/\IT Hx (Hh s)=IT Hx (Hh s)/\IT H7 (Hn s)=IT H7 (Hn s)/\IN)/\(n=n+(x0:Int)/\IN)/\h95Cq6=h95Cq6/\IN)/\∀(x:Nat),x<=IR l->(decide ((x:Int)<(↑(IR (IT H8 l)):Int))=true->((0:Int)<=(x:Int)/\(IT H8 l)[IJ (x:Int)]? = some (VI l x))/\((!false)=true->IK Tryz.prog G 100 [VI l x] λ(rs:IU D)=>∃(s_1:IU UInt8),rs=[HW s_1]/\Gi Tryz.prog G 2 [IH (.int .i64 (x:Int)),.d (.str s_1)] (x6 s n x) λ(rs:IU D) (H':IU Box)=>VG rs H' s n l x)/\((!false)=false->Gi Tryz.prog G 2 [IH (.int .i64 (x:Int)),.d (.str (Gx (Gy (Gu #[]))))] (x6 s n x) λ(rs:IU D) (H':IU Box)=>VG rs H' s n l x))/\(decide ((x:Int)<(↑(IR (IT H8 l)):Int))=false->([]:IU D)=[]/\x6 s n x=VH s n l))
 ·kernel_rfl
 delta h95Cq6 h95Cq8 uJ x6 h95Cq1 uH xt uI VI VG VH;refine⟨0,by omega,⟨⟨rfl,rfl,rfl,rfl,rfl,trivial⟩,⟨rfl,rfl,rfl,rfl,rfl,trivial⟩,⟨by simp,trivial⟩,rfl,trivial⟩,λi hi=>⟨λhlt=>?_,λhge=>?_⟩⟩
 ·simp only[H4,HS]at hlt;obtain⟨z,hz,hm⟩:=zw (l:=l) (x:=i) (by omega);rw[HF,uP hz];refine⟨⟨by omega,by simp[hz]⟩,λ_=>(Lh z).mono ?_,λh=>Hu h (by decide)⟩;rintro _ rfl;refine⟨_,rfl,(Rd s i (n+i) z.name).mono ?_⟩;rintro rs H' ⟨rfl,rfl⟩;exact⟨true,rfl,_,_,_,_,_,_,_,_,rfl,λh=>Hu h (by decide),λ_=>⟨i+1,by omega,by omega,⟨rfl,rfl,rfl,rfl,by rw[zx (by omega) (by omega)];simp,trivial⟩,⟨rfl,rfl,rfl,rfl,rfl,trivial⟩,⟨by rw[zx (by omega) (by omega)];simp;omega,trivial⟩,rfl,trivial⟩⟩
 ·simp only[H4,HH]at hge;have e:i=l.length:=by omega
  rw[e];exact⟨rfl,rfl⟩
def aK (a:IU Pe) (b:Nat):D:=zr [HI,HK] (IT Hy a) (IJ (b:Int))
def aJ (a:Sc) (b:Int) (c:IU Pe):IU Box:=[h95Cq1 a,.cells 3 [.d (.int .i64 (b+(↑(IR c):Int)))],h95Cq6]
def aI (a:IU D) (b:IU Box) (c:Sc) (d:Int) (e:IU Pe) (f:Nat):Prop:= ∃(b_1:Bool),a=[IL b_1]/\∃(l:IU D)(l_1:IU D)(l_2:IU D)(l_3:IU D)(l_4:IU D)(n:Int)(pend:IQ He)(st:HJ),b=xt l l_1 l_2 l_3 l_4 n pend st/\((!b_1)=true->([]:IU D)=[]/\xt l l_1 l_2 l_3 l_4 n pend st=aJ c d e)/\((!b_1)=false->∃(y:Nat),y<=IR e/\IR e - y<IR e - f/\(IH (.fn 102)=IH (.fn 102)/\G2 2=G2 2/\IT Hy e=IT Hy e/\(↑(IR (IT Hy e)):Int)=(↑(IR (IT Hy e)):Int)/\Hr .i64 ((f:Int)+1)=(y:Int)/\IN)/\(l=IT H9 (Hk c)/\l_1=IT H8 (Hg c)/\l_2=IT Hy (Hi c)/\l_3=IT Hx (Hh c)/\l_4 = IT H7 (Hn c)/\IN)/\(n=d+(y:Int)/\IN)/\Gz h95Cq8 (zY c158) (zk c158) (zX c158) pend st=h95Cq6/\IN)
theorem Ld (s:Sc) (l:IU Pe) (n:Int) (h0:0<=n) (hl:l.length<1099511627776) (hk:n+l.length<4611686018427387904):HY Tryz.prog G 101 [.d (.sl (l.map Hy)),.d (.fn 102),.yld 2] (hC s n) (λrs H'=>rs=[]/\H'=hC s (n+l.length)):=by
 refine zZ (LL [(1,ze (α:=Nat) Tryz.prog G L0 3 (z8 (z6 Tryz.f101) 0) [1,2,9,10] (λi=>i<=l.length) (λi=>l.length - i) (λi=>[(11,.d (.int .i64 i))]) (λH i=>hC s (n+i)++H.drop 3))]) Tryz.func101 rfl ⟨[],_,rfl,rfl⟩ (zt zz) ?_;apply @z7 _ (∃(x0:Nat),x0<=IR l/\((IH (.fn 102)=IH (.fn 102)/\G2 2=G2 2/\IT Hy l=IT Hy l/\(↑(IR (IT Hy l)):Int)=(↑(IR (IT Hy l)):Int)/\(0:Int)=(x0:Int)/\IN)/\(IT H9 (Hk s)=IT H9 (Hk s)/\IT H8 (Hg s)=IT H8 (Hg s)/\IT Hy (Hi s)=IT Hy (Hi s)/\IT Hx (Hh s)=IT Hx (Hh s)/\IT H7 (Hn s)=IT H7 (Hn s)/\IN)/\(n=n+(x0:Int)/\IN)/\h95Cq6=h95Cq6/\IN)/\∀(x:Nat),x<=IR l->(decide ((x:Int)<(↑(IR (IT Hy l)):Int))=true->((0:Int)<=(x:Int)/\(IT Hy l)[IJ (x:Int)]? = some (aK l x))/\((!false)=true->IK Tryz.prog G 102 [aK l x] λ(rs:IU D)=>∃(s_1: IU UInt8),rs=[HW s_1]/\Gi Tryz.prog G 2 [IH (.int .i64 (x:Int)),.d (.str s_1)] (x6 s n x) λ(rs:IU D) (H':IU Box)=>aI rs H' s n l x)/\((!false)=false->Gi Tryz.prog G 2 [IH (.int .i64 (x:Int)),.d (.str (Gx (Gy (Gu #[]))))] (x6 s n x) λ(rs:IU D) (H':IU Box)=>aI rs H' s n l x))/\(decide ((x:Int)<(↑(IR (IT Hy l)):Int))=false->([]:IU D)=[]/\x6 s n x=aJ s n l))
 ·kernel_rfl
 delta h95Cq6 h95Cq8 uJ x6 h95Cq1 uH xt uI aK aI aJ;refine⟨0,by omega,⟨⟨rfl,rfl,rfl,rfl,rfl,trivial⟩,⟨rfl,rfl,rfl,rfl,rfl,trivial⟩,⟨by simp,trivial⟩,rfl,trivial⟩,λi hi=>⟨λhlt=>?_,λhge=>?_⟩⟩
 ·simp only[H4,HS]at hlt;obtain⟨z,hz,hm⟩:=zw (l:=l) (x:=i) (by omega);rw[HF,pu hz];refine⟨⟨by omega,by simp[hz]⟩,λ_=>(Lg z).mono ?_,λh=>Hu h (by decide)⟩;rintro _ rfl;refine⟨_,rfl,(Rd s i (n+i) z.name).mono ?_⟩;rintro rs H' ⟨rfl,rfl⟩;exact⟨true,rfl,_,_,_,_,_,_,_,_,rfl,λh=>Hu h (by decide),λ_=>⟨i+1,by omega,by omega,⟨rfl,rfl,rfl,rfl,by rw[zx (by omega) (by omega)];simp,trivial⟩,⟨rfl,rfl,rfl,rfl,rfl,trivial⟩,⟨by rw[zx (by omega) (by omega)];simp;omega,trivial⟩,rfl,trivial⟩⟩
 ·simp only[H4,HH]at hge;have e:i=l.length:=by omega
  rw[e];exact⟨rfl,rfl⟩
def aH (a:IU Gr) (b:Nat):D:=zr [HI,HX .i64] (IT Hx a) (IJ (b:Int))
def aG (a:Sc) (b:Int) (c:IU Gr):IU Box:=[h95Cq1 a,.cells 3 [.d (.int .i64 (b+(↑(IR c):Int)))],h95Cq6]
def aF (a:IU D) (b:IU Box) (c:Sc) (d:Int) (e:IU Gr) (f:Nat):Prop:= ∃(b_1:Bool),a=[IL b_1]/\∃(l:IU D)(l_1:IU D)(l_2:IU D)(l_3:IU D)(l_4:IU D)(n:Int)(pend:IQ He)(st:HJ),b=xt l l_1 l_2 l_3 l_4 n pend st/\((!b_1)=true->([]:IU D)=[]/\xt l l_1 l_2 l_3 l_4 n pend st=aG c d e)/\((!b_1)=false->∃(y:Nat),y<=IR e/\IR e - y<IR e - f/\(IH (.fn 104)=IH (.fn 104)/\G2 2=G2 2/\IT Hx e=IT Hx e/\(↑(IR (IT Hx e)):Int)=(↑(IR (IT Hx e)):Int)/\Hr .i64 ((f:Int)+1)=(y:Int)/\IN)/\(l=IT H9 (Hk c)/\l_1=IT H8 (Hg c)/\l_2=IT Hy (Hi c)/\l_3=IT Hx (Hh c)/\l_4 = IT H7 (Hn c)/\IN)/\(n=d+(y:Int)/\IN)/\Gz h95Cq8 (zY c158) (zk c158) (zX c158) pend st=h95Cq6/\IN)
theorem Lc (s:Sc) (l:IU Gr) (n:Int) (h0:0<=n) (hl:l.length<1099511627776) (hk:n+l.length<4611686018427387904):HY Tryz.prog G 103 [.d (.sl (l.map Hx)),.d (.fn 104),.yld 2] (hC s n) (λrs H'=>rs=[]/\H'=hC s (n+l.length)):=by
 refine zZ (LL [(1,ze (α:=Nat) Tryz.prog G L0 3 (z8 (z6 Tryz.f103) 0) [1,2,9,10] (λi=>i<=l.length) (λi=>l.length - i) (λi=>[(11,.d (.int .i64 i))]) (λH i=>hC s (n+i)++H.drop 3))]) Tryz.func103 rfl ⟨[],_,rfl,rfl⟩ (zt zz) ?_;apply @z7 _ (∃(x0:Nat),x0<=IR l/\((IH (.fn 104)=IH (.fn 104)/\G2 2=G2 2/\IT Hx l=IT Hx l/\(↑(IR (IT Hx l)):Int)=(↑(IR (IT Hx l)):Int)/\(0:Int)=(x0:Int)/\IN)/\(IT H9 (Hk s)=IT H9 (Hk s)/\IT H8 (Hg s)=IT H8 (Hg s)/\IT Hy (Hi s)=IT Hy (Hi s)/\IT Hx (Hh s)=IT Hx (Hh s)/\IT H7 (Hn s)=IT H7 (Hn s)/\IN)/\(n=n+(x0:Int)/\IN)/\h95Cq6=h95Cq6/\IN)/\∀(x:Nat),x<=IR l->(decide ((x:Int)<(↑(IR (IT Hx l)):Int))=true->((0:Int)<=(x:Int)/\(IT Hx l)[IJ (x:Int)]? = some (aH l x))/\((!false)=true->IK Tryz.prog G 104 [aH l x] λ(rs:IU D)=>∃(s_1: IU UInt8),rs=[HW s_1]/\Gi Tryz.prog G 2 [IH (.int .i64 (x:Int)),.d (.str s_1)] (x6 s n x) λ(rs:IU D) (H':IU Box)=>aF rs H' s n l x)/\((!false)=false->Gi Tryz.prog G 2 [IH (.int .i64 (x:Int)),.d (.str (Gx (Gy (Gu #[]))))] (x6 s n x) λ(rs:IU D) (H':IU Box)=>aF rs H' s n l x))/\(decide ((x:Int)<(↑(IR (IT Hx l)):Int))=false->([]:IU D)=[]/\x6 s n x=aG s n l))
 ·kernel_rfl
 delta h95Cq6 h95Cq8 uJ x6 h95Cq1 uH xt uI aH aF aG;refine⟨0,by omega,⟨⟨rfl,rfl,rfl,rfl,rfl,trivial⟩,⟨rfl,rfl,rfl,rfl,rfl,trivial⟩,⟨by simp,trivial⟩,rfl,trivial⟩,λi hi=>⟨λhlt=>?_,λhge=>?_⟩⟩
 ·simp only[H4,HS]at hlt;obtain⟨z,hz,hm⟩:=zw (l:=l) (x:=i) (by omega);rw[HF,nM hz];refine⟨⟨by omega,by simp[hz]⟩,λ_=>(Lf z).mono ?_,λh=>Hu h (by decide)⟩;rintro _ rfl;refine⟨_,rfl,(Rd s i (n+i) z.name).mono ?_⟩;rintro rs H' ⟨rfl,rfl⟩;exact⟨true,rfl,_,_,_,_,_,_,_,_,rfl,λh=>Hu h (by decide),λ_=>⟨i+1,by omega,by omega,⟨rfl,rfl,rfl,rfl,by rw[zx (by omega) (by omega)];simp,trivial⟩,⟨rfl,rfl,rfl,rfl,rfl,trivial⟩,⟨by rw[zx (by omega) (by omega)];simp;omega,trivial⟩,rfl,trivial⟩⟩
 ·simp only[H4,HH]at hge;have e:i=l.length:=by omega
  rw[e];exact⟨rfl,rfl⟩
theorem Ju (i:Nat) (hi:i<100):IK Tryz.prog G 147 [.int .i64 i] (· = [.str (BN i)]):=by refine IK.of_calls (v:= .string ⟨(BN i).toArray⟩) (λI J w=>R1.str _) λc w vs hρ hr hvs=>?_;obtain⟨v1,vs1,rfl,h1,h2⟩:=hvs.cons_right;have:=h2.nil_right;subst this;cases h1;exact(Tryz.strconv_Itoa_small i hi w).mono λe w' h=>⟨h.1,by rw[h.2];exact zug _ _⟩
theorem VF (i:Nat) (hi:i<100):(BN i).length<=2:=by
 rcases G4 i 10 with h|h
 ·rw[Lib.decDigits_one h];simp
 ·rw[Lib.decDigits_two (by omega) hi];simp
def hD (s:Sc) (n:Int) (w:Nm):IU Box:=[.cells 28 (nh s),.cells 3 [.d (.int .i64 n)],.loop tm158 (zY c158) (zk c158) (zX c158) none .ready,.cells 9 [.d (.str w)],.cells 173 [.yld 2]]
def h106q2:AV:=Gg 146 [] [IA 4 0,.ptr 3 0]
def kC (a:Sc) (b:Int) (c:Nm):IU Box:=[h95Cq1 a,.cells 3 [.d (.int .i64 b)],h95Cq6,.cells 9 [.d (.str c)],.cells 173 [.yld 2]]
theorem Lb (s:Sc) (n:Int) (w:Nm):C0 Tryz.prog G 106 [.d (.str w),.yld 2] (hC s n) (.clo 146 [] [.ptr 4 0,.ptr 3 0]) [.cells 9 [.d (.str w)],.cells 173 [.yld 2]]:=by
 refine C0.walk (fn:=Tryz.f106) (code:=z6 Tryz.f106) mixed L0 Tryz.func106 (by kernel_rfl) rfl tw ?_;apply @z7 _ (h106q2=h106q2/\kC s n w=kC s n w)
 ·kernel_rfl
 delta h106q2 kC h95Cq1 h95Cq6 h95Cq8 uJ x6 uH xt uI;exact⟨rfl,rfl⟩
def mw (a:Nm):IU Box:=[Hl 9 [.d (.str a)],.cells 173 [.yld 2]]
theorem Jt (s:Sc) (i:Nat) (n:Int) (nm w:Nm) (hi:i<100) (hw:w.length<100) (h0:0<=n) (hn:n<4611686018427387904):HY Tryz.prog G 146 [.d (.int .i64 i),.d (.str nm),.ptr 4 0,.ptr 3 0] (hD s n w) (λrs H'=>rs=[.bool true]/\H'=hD s (n+1) w):=by
 refine zB Tryz.func146 rfl ⟨_,_,rfl,rfl⟩ ?_;apply @z7 _ (IK Tryz.prog G 147 [IP .i64 (i:Int)] λ(rs:IU D)=>∃(s_1:IU UInt8),rs=[HW s_1]/\CJ (IR w+IR s_1) 9223372036854775807/\Gi Tryz.prog G 2 [IH (.int .i64 (i:Int)),.d (.str (w++s_1))] [h95Cq1 s,.cells 3 [.d (.int .i64 n)],h95Cq6] λ(rs:IU D) (H':IU Box)=>∃(b:Bool),rs=[IL b]/\∃(l:IU D)(l_1:IU D)(l_2:IU D)(l_3:IU D)(l_4:IU D)(n_1:Int)(pend:IQ He)(st:HJ),H'=xt l l_1 l_2 l_3 l_4 n_1 pend st/\[IL b]=[IL true]/\Hl 28 [.d (.sl l),.d (.sl l_1),.d (.sl l_2),.d (.sl l_3),.d (.sl l_4)]::Hl 3 [.d (.int .i64 n_1)]::Gz h95Cq8 (zY c158) (zk c158) (zX c158) pend st::mw w=h95Cq1 s::Hl 3 [.d (.int .i64 (n+1))]::h95Cq6::mw w)
 ·kernel_rfl
 delta h95Cq1 h95Cq6 h95Cq8 uJ x6 uH xt uI mw;refine(Ju i hi).mono ?_;rintro _ rfl;have hd:=VF i hi;refine⟨_,rfl,?_,(Rd s i n _).mono ?_⟩
 ·show IR w+IR (BN i)<=9223372036854775807;omega
 ·rintro rs H' ⟨rfl,rfl⟩;rw[zx (by omega) (by omega)];exact⟨true,rfl,_,_,_,_,_,_,_,_,rfl,rfl,rfl⟩
def vX (a:Nat):IU D:=G8 a (Hd [])
def mv (a:Sc) (b:Int) (c:Nat) (d:Nm):IU Box:=h95Cq1 a::Hl 3 [.d (.int .i64 (b+(c:Int)))]::h95Cq6::mw d
def kB (a:IU D) (b:IU D) (c:IU D) (d:IU D) (e:IU D) (f:Int) (g:IQ He) (h:HJ) (i:IU UInt8):IU Box:=[Hl 28 [.d (.sl a),.d (.sl b),.d (.sl c),.d (.sl d),.d (.sl e)],.cells 3 [.d (.int .i64 f)],.loop h95Cq8 (zY c158) (zk c158) (zX c158) g h,.cells 9 [.d (.str i)],.cells 173 [.yld 2]]
theorem Js (s:Sc) (m:Nat) (n:Int) (w:Nm) (hm:m<=8) (hw:w.length<100) (h0:0<=n) (hn:n<4611686018427387):HY Tryz.prog G 105 [.d (.sl (G8 m (.agg []))),.nilf,.clo 146 [] [.ptr 4 0,.ptr 3 0]] (hD s n w) (λrs H'=>rs=[]/\H'=hD s (n+m) w):=by
 refine zZ (LL [(1,ze (α:=Nat) Tryz.prog G L0 5 (z8 (z6 Tryz.f105) 0) [1,2,9,10] (λi=>i<=m) (λi=>m - i) (λi=>[(11,.d (.int .i64 i))]) (λH i=>hD s (n+i) w++H.drop 5))]) Tryz.func105 rfl ⟨[],_,rfl,rfl⟩ (zt zz) ?_;apply @z7 _ (∃(x0:Nat),x0<=m/\((zzX=zzX/\h106q2=h106q2/\vX m=vX m/\(↑(IR (vX m)):Int)=(↑(IR (vX m)):Int)/\(0:Int)=(x0:Int)/\IN)/\(IT H9 (Hk s)=IT H9 (Hk s)/\IT H8 (Hg s)=IT H8 (Hg s)/\IT Hy (Hi s)=IT Hy (Hi s)/\IT Hx (Hh s)=IT Hx (Hh s)/\IT H7 (Hn s)=IT H7 (Hn s)/\IN)/\(n=n+(x0:Int)/\IN)/\h95Cq6=h95Cq6/\(w=w/\IN)/\(G2 2=G2 2/\IN)/\IN)/\∀(x:Nat),x<=m->(decide ((x:Int)<(↑(IR (vX m)):Int))=true->((0:Int)<=(x:Int)/\(vX m)[IJ (x:Int)]? = some (Hd []))/\((!true)=true->False)/\((!true)=false->HY Tryz.prog G 146 [IH (.int .i64 (x:Int)),.d (.str (Gx (Gy (Gu #[])))),.ptr 4 0,.ptr 3 0] (mv s n x w) λ(rs:IU D) (H':IU Box)=>∃(b:Bool),rs=[IL b]/\∃(l:IU D)(l_1:IU D)(l_2:IU D)(l_3:IU D)(l_4:IU D)(n_1:Int)(pend:IQ He)(st:HJ)(s_1:IU UInt8),H'=kB l l_1 l_2 l_3 l_4 n_1 pend st s_1/\((!b)=true->([]:IU D)=[]/\kB l l_1 l_2 l_3 l_4 n_1 pend st s_1=mv s n m w)/\((!b)=false->∃(y:Nat),y<=m/\m - y<m - x/\(zzX=zzX/\h106q2=h106q2/\vX m=vX m/\(↑(IR (vX m)):Int)=(↑(IR (vX m)):Int)/\Hr .i64 ((x:Int)+1)=(y:Int)/\IN)/\(l=IT H9 (Hk s)/\l_1=IT H8 (Hg s)/\l_2=IT Hy (Hi s)/\l_3=IT Hx (Hh s)/\l_4=IT H7 (Hn s)/\IN)/\(n_1 = n+(y:Int)/\IN)/\Gz h95Cq8 (zY c158) (zk c158) (zX c158) pend st=h95Cq6/\(s_1=w/\IN)/\(G2 2=G2 2/\IN)/\IN)))/\(decide ((x:Int)<(↑(IR (vX m)):Int))=false->([]:IU D)=[]/\mv s n x w=mv s n m w))
 ·kernel_rfl
 delta h106q2 kC h95Cq1 h95Cq6 h95Cq8 uJ x6 uH xt uI vX mv mw kB;refine⟨0,by omega,⟨⟨rfl,rfl,rfl,rfl,rfl,trivial⟩,⟨rfl,rfl,rfl,rfl,rfl,trivial⟩,⟨by simp,trivial⟩,rfl,⟨rfl,trivial⟩,⟨rfl,trivial⟩,trivial⟩,λi hi=>⟨λhlt=>?_,λhge=>?_⟩⟩
 ·simp only[Aq,HS]at hlt;refine⟨⟨by omega,by rw[HF,Ar,Hv (by omega)]⟩,λh=>Hu h (by decide),λ_=>(Jt s i (n+i) _ w (by omega) hw (by omega) (by omega)).mono ?_⟩;rintro rs H' ⟨rfl,rfl⟩;exact⟨true,rfl,_,_,_,_,_,_,_,_,_,rfl,λh=>Hu h (by decide),λ_=>⟨i+1,by omega,by omega,⟨rfl,rfl,rfl,rfl,by rw[zx (by omega) (by omega)];simp,trivial⟩,⟨rfl,rfl,rfl,rfl,rfl,trivial⟩,⟨by simp;omega,trivial⟩,rfl,⟨rfl,trivial⟩,⟨rfl,trivial⟩,trivial⟩⟩
 ·simp only[Aq,HH]at hge;have e:i=m:=by omega
  rw[e];exact⟨rfl,rfl⟩
def h94Cq2:IU AV:=[G2 2]
def h94Cq12:Box:=Hl 3 [.d (.int .i64 0)]
def vW (a:Sc):IU Box:=[h95Cq1 a,h94Cq12,h95Cq6]
def il (a:Sc) (b:Int):IU Box:=[h95Cq1 a,.cells 3 [.d (.int .i64 (zU a b))],h95Cq6]
def aE (a:IU D) (b:IU D) (c:IU D) (d:IU D) (e:IU D) (f:Int) (g:IQ He) (h:HJ) (i:Sc) (j:Int):Prop:=xt a b c d e f g h=il i j
def mu (a:IU D) (b:IU Box) (c:Sc) (d:Int):Prop:=a=[]/\∃(l:IU D)(l_1:IU D)(l_2:IU D)(l_3:IU D)(l_4:IU D)(n:Int)(pend:IQ He)(st:HJ),b=xt l l_1 l_2 l_3 l_4 n pend st/\aE l l_1 l_2 l_3 l_4 n pend st c d
def h94Cq15:Prop:=(7:Int)=7/\(0:Int)<=7/\(7:Int)<=1000000000/\(↑0:Int)*(7:Int)<=281474976710656
def h94Cq9:AV:=IH (.str (Gx (Gy (Gu #[(100:UInt8),(97:UInt8),(121:UInt8)]))))
def h94Cq5:IU Box:=[Hl 9 [h94Cq9],.cells 173 h94Cq2]
def aD (a:Nat->IQ (IU D)) (b:Sc):Prop:=C0 Tryz.prog a 106 (h94Cq9::h94Cq2) (vW b) h106q2 h94Cq5
def h94Cq7:IU D:=[Hd [],.agg [],.agg [],.agg [],.agg [],.agg [],.agg []]
def ik (a:IU D) (b:IU Box) (c:Sc) (d:Int):Prop:=a=[]/\∃(l:IU D)(l_1:IU D)(l_2:IU D)(l_3:IU D)(l_4:IU D)(n:Int)(pend:IQ He)(st:HJ)(s:IU UInt8),b=kB l l_1 l_2 l_3 l_4 n pend st s/\aE l l_1 l_2 l_3 l_4 n pend st c d
def ij (a:Nat->IQ (IU D)) (b:Sc) (c:Int):Prop:=HY Tryz.prog a 105 [IH (.sl h94Cq7),.nilf,h106q2] (h95Cq1 b::h94Cq12::h95Cq6::h94Cq5) λ(rs:IU D) (H':IU Box)=>ik rs H' b c
def ii (a:Nat->IQ (IU D)) (b:Sc) (c:Int):Prop:=h94Cq15/\aD a b/\ij a b c
def h94Cq3:Prop:=(8:Int)=8/\(0:Int)<=8/\(8:Int)<=1000000000/\(↑0:Int)*(8:Int)<=281474976710656
def h94Cq8:AV:=IH (.str (Gx (Gy (Gu #[(104:UInt8),(111:UInt8),(117:UInt8),(115:UInt8),(101:UInt8)]))))
def ig (a:Nat->IQ (IU D)) (b:Sc):Prop:=C0 Tryz.prog a 106 (h94Cq8::h94Cq2) (vW b) h106q2 [Hl 9 [h94Cq8],.cells 173 h94Cq2]
def ie (a:Nat->IQ (IU D)) (b:Sc) (c:Int):Prop:=HY Tryz.prog a 105 [IH (.sl (Hd []::h94Cq7)),.nilf,h106q2] [h95Cq1 b,h94Cq12,h95Cq6,.cells 9 [h94Cq8],.cells 173 h94Cq2] λ(rs:IU D) (H':IU Box)=>ik rs H' b c
def ic (a:Nat->IQ (IU D)) (b:Sc) (c:Int):Prop:=h94Cq3/\ig a b/\ie a b c
theorem Jr (s:Sc) (k:Int) (hs:s.Fits):HY Tryz.prog G 94 [.yld 2,.iptr [.int .i64 k],.iptr [.sl (s.slots.map H9),.sl (s.rooms.map H8),.sl (s.people.map Hy),.sl (s.groups.map Hx),.sl (s.lessons.map H7)]] (hC s 0) (λ_ H'=>H'=hC s (zU s k)):=by
 refine zB Tryz.func94 rfl ⟨[],_,rfl⟩ ?_;apply @z7 _ (((k==1)=true->HY Tryz.prog G 95 (IH (.sl (IT H7 (Hn s)))::IH (.fn 96)::h94Cq2) (vW s) λ(rs:IU D) (H':IU Box)=>mu rs H' s k)/\((k==1)=false->((k==2)=true->HY Tryz.prog G 97 (IH (.sl (IT H9 (Hk s)))::IH (.fn 98)::h94Cq2) (vW s) λ(rs:IU D) (H':IU Box)=>mu rs H' s k)/\((k==2)=false->((k==3)=true->HY Tryz.prog G 99 (IH (.sl (IT H8 (Hg s)))::IH (.fn 100)::h94Cq2) (vW s) λ(rs:IU D) (H':IU Box)=>mu rs H' s k)/\((k==3)=false->((k==4)=true->HY Tryz.prog G 101 (IH (.sl (IT Hy (Hi s)))::IH (.fn 102)::h94Cq2) (vW s) λ(rs:IU D) (H':IU Box)=>mu rs H' s k)/\((k==4)=false->((k==5)=true->HY Tryz.prog G 103 (IH (.sl (IT Hx (Hh s)))::IH (.fn 104)::h94Cq2) (vW s) λ(rs:IU D) (H':IU Box)=>mu rs H' s k)/\((k==5)=false->((k==6)=true->ii G s k/\ii G s k/\aD G s/\h94Cq15/\ij G s k)/\((k==6)=false->((k==7)=true->ic G s k/\ic G s k/\ig G s/\h94Cq3/\ie G s k)/\((k==7)=false->vW s=il s k))))))))
 ·kernel_rfl
 delta h94Cq2 vW h95Cq1 h95Cq6 h95Cq8 uJ x6 uH xt uI h94Cq12 mu aE il ii h94Cq15 aD h94Cq9 h106q2 kC h94Cq5 ij h94Cq7 ik kB vX mv mw ic h94Cq3 ig h94Cq8 ie;have c1:k=1->zU s k=s.lessons.length:=λe=>by subst e;simp[zU,zf]
 have c2:k=2->zU s k=s.slots.length:=λe=>by subst e;simp[zU,zf]
 have c3:k=3->zU s k=s.rooms.length:=λe=>by subst e;simp[zU,zf]
 have c4:k=4->zU s k=s.people.length:=λe=>by subst e;simp[zU,zf]
 have c5:k=5->zU s k=s.groups.length:=λe=>by subst e;simp[zU,zf]
 have c6:k=6->zU s k=7:=λe=>by subst e;rfl
 have c7:k=7->zU s k=8:=λe=>by subst e;rfl
 have c0:k≠1->k≠2->k≠3->k≠4->k≠5->k≠6->k≠7->zU s k=0:=λa b c d e f g=>by simp[zU,zf,a,b,c,d,e,f,g]
 have row6:∀(m:Nat) (w:Nm),m<=8->w.length<100->HY Tryz.prog G 105 [.d (.sl (G8 m (.agg []))),.nilf,.clo 146 [] [.ptr 4 0,.ptr 3 0]] (hD s 0 w) (λrs H'=>rs=[]/\H'=hD s m w):=λm w h1 h2=>(Js s m 0 w h1 h2 (by omega) (by omega)).mono λrs H' h=>⟨h.1,by rw[h.2,B7]⟩;refine⟨λe=>?_,λn1=>⟨λe=>?_,λn2=>⟨λe=>?_,λn3=>⟨λe=>?_,λn4=>⟨λe=>?_,λn5=>⟨λe=>?_,λn6=>⟨λe=>?_,λn7=>?_⟩⟩⟩⟩⟩⟩⟩
 ·have e':k=1:=by simpa using e
  rw[c1 e'];have hl:=hs.lessons;refine(Jx s s.lessons 0 (by omega) hl (by omega)).mono ?_;rintro rs H' ⟨rfl,rfl⟩;rw[B7];exact⟨rfl,_,_,_,_,_,_,_,_,rfl,rfl⟩
 ·have e':k=2:=by simpa using e
  rw[c2 e'];have hl:=hs.slots;refine(Jw s s.slots 0 (by omega) hl (by omega)).mono ?_;rintro rs H' ⟨rfl,rfl⟩;rw[B7];exact⟨rfl,_,_,_,_,_,_,_,_,rfl,rfl⟩
 ·have e':k=3:=by simpa using e
  rw[c3 e'];have hl:=hs.rooms;refine(Jv s s.rooms 0 (by omega) hl (by omega)).mono ?_;rintro rs H' ⟨rfl,rfl⟩;rw[B7];exact⟨rfl,_,_,_,_,_,_,_,_,rfl,rfl⟩
 ·have e':k=4:=by simpa using e
  rw[c4 e'];have hl:=hs.people;refine(Ld s s.people 0 (by omega) hl (by omega)).mono ?_;rintro rs H' ⟨rfl,rfl⟩;rw[B7];exact⟨rfl,_,_,_,_,_,_,_,_,rfl,rfl⟩
 ·have e':k=5:=by simpa using e
  rw[c5 e'];have hl:=hs.groups;refine(Lc s s.groups 0 (by omega) hl (by omega)).mono ?_;rintro rs H' ⟨rfl,rfl⟩;rw[B7];exact⟨rfl,_,_,_,_,_,_,_,_,rfl,rfl⟩
 ·have e':k=6:=by simpa using e
  rw[c6 e'];have hM:=Lb (G:=G) s 0 [100,97,121];have hE:=row6 7 [100,97,121] (by omega) (by decide);refine⟨⟨⟨rfl,by decide,by decide,by decide⟩,hM,hE.mono ?_⟩,⟨⟨rfl,by decide,by decide,by decide⟩,hM,hE.mono ?_⟩,hM,⟨rfl,by decide,by decide,by decide⟩,hE.mono ?_⟩ <;>
  ·rintro rs H' ⟨rfl,rfl⟩;exact⟨rfl,_,_,_,_,_,_,_,_,_,rfl,rfl⟩
 ·have e':k=7:=by simpa using e
  rw[c7 e'];have hM:=Lb (G:=G) s 0 [104,111,117,115,101];have hE:=row6 8 [104,111,117,115,101] (by omega) (by decide);refine⟨⟨⟨rfl,by decide,by decide,by decide⟩,hM,hE.mono ?_⟩,⟨⟨rfl,by decide,by decide,by decide⟩,hM,hE.mono ?_⟩,hM,⟨rfl,by decide,by decide,by decide⟩,hE.mono ?_⟩ <;>
  ·rintro rs H' ⟨rfl,rfl⟩;exact⟨rfl,_,_,_,_,_,_,_,_,_,rfl,rfl⟩
 ·rw[c0 (by simpa using n1) (by simpa using n2) (by simpa using n3) (by simpa using n4) (by simpa using n5) (by simpa using n6) (by simpa using n7)]
def La (ds:IU D):AV:= .clo 94 [] [.iptr [ds.getD 1 default],.iptr (ds.getD 0 default).cells]
def aC (a:Sc):IU D:=[II (IT H9 (Hk a)),.sl (IT H8 (Hg a)),.sl (IT Hy (Hi a)),.sl (IT Hx (Hh a)),.sl (IT H7 (Hn a))]
theorem h158 (s:Sc) (k:Int) (hs:s.Fits):IK Tryz.prog G 158 [s.d,.int .i64 k] (· = [.int .i64 (zU s k)]):=by
 rw[zj];refine zu (LL [(1000002,uT Tryz.prog G [5] La c158)]) Tryz.func158 ⟨_,rfl⟩ (zt (xy (by kernel_rfl))) ?_;apply @z7 _ ((PFnA Tryz.prog G 56 [Hd (aC s),.int .i64 k] λ(av:AV)=>av=Gg 94 [] [GO [.int .i64 k],.iptr (aC s)])/\HY Tryz.prog G 94 [G2 2,.iptr [.int .i64 k],.iptr (aC s)] (vW s) λ(x:IU D) (H':IU Box)=>∃(l:IU D)(l_1:IU D)(l_2:IU D)(l_3:IU D)(l_4:IU D)(n:Int)(pend:IQ He)(st:HJ),H'=xt l l_1 l_2 l_3 l_4 n pend st/\st≠Do/\(pend=none/\[IP .i64 n]=[IP .i64 (zU s k)]∨pend=some FJ/\[IP .i64 0]=[IP .i64 (zU s k)]∨pend=some (DV (W9 c158))/\[IP .i64 n]=[IP .i64 (zU s k)]))
 ·kernel_rfl
 delta aC vW h94Cq2 h95Cq1 h95Cq6 h95Cq8 uJ x6 uH xt uI h94Cq12 mu aE il ii h94Cq15 aD h94Cq9 h106q2 kC h94Cq5 ij h94Cq7 ik kB vX mv mw ic h94Cq3 ig h94Cq8 ie;refine⟨h56 s k,(Jr s k hs).mono ?_⟩;rintro rs H' rfl;exact⟨_,_,_,_,_,_,_,_,rfl,by decide,.inl ⟨rfl,rfl⟩⟩
end
section
def zM (s:Sc) (bs:IU Bd):IU Int:=bs.map λb=>zU s b.sort
theorem VE (s:Sc) {bs:IU Bd}{x:Nat}{b:Bd}(h:bs[x]? = some b):zM s (bs.take (x+1))=zM s (bs.take x)++[zU s b.sort]:=by unfold zM;rw[yr h];simp
theorem tl (s:Sc) (bs:IU Bd):(zM s bs).length=bs.length:=by simp[zM]
mutual
def Fm.broadP (s:Sc):Fm->Int
 |.mk _ _ _ _ bs l=>zF 1048577 (zF 1048577 (Fm.broadsP s l 0*zR 1048577 s bs)+1)
def Fm.broadsP (s:Sc):IU Fm->Int->Int
 |[],n=>n
 |x::r,n=>Fm.broadsP s r (zF 1048577 (n+Fm.broadP s x))
end
theorem Fm.broadP_eq (s:Sc) (f:Fm):f.broadP s=zF 1048577 (zF 1048577 (Fm.broadsP s f.l 0*zR 1048577 s f.bs)+1):=by cases f;rw[Fm.broadP];rfl
def wV (s:Sc):IU Ru->Int->Int->Bool
 |[],n,b=>decide (n>4096)||decide (b>1048576)
 |r::q,n,b=>wV s q (n+zR 1048577 s r.each) (zF 1048577 (b+zF 1048577 (zR 1048577 s r.each*r.body.broadP s)))
theorem cQ {s:Sc}(hs:s.Fits) (f:Fm):0<=f.broadP s/\f.broadP s<=1048577:=by
 have key:∀(l:IU Fm),(∀x∈l,0<=x.broadP s/\x.broadP s<=1048577)->∀n,0<=n->n<=1048577->0<=Fm.broadsP s l n/\Fm.broadsP s l n<=1048577:=by
  intro l;induction l with
  |nil=>intro _ n h1 h2;rw[Fm.broadsP];exact⟨h1,h2⟩
  |cons x r ih =>
   intro h n h1 h2;rw[Fm.broadsP];have hx:=h x (by simp);have hc:=yx (c:=1048577) (x:=n+x.broadP s) (by decide) (by omega);exact ih (λy hy=>h y (by simp[hy])) _ hc.1 hc.2
 induction f using Ex with
 |h f ih =>
 rw[Fm.broadP_eq];have h1:=key f.l ih 0 (by decide) (by decide);have h2:=yW hs (c:=1048577) (by decide) f.bs;have h3:=yx (c:=1048577) (x:=Fm.broadsP s f.l 0*zR 1048577 s f.bs) (by decide) (DK h1.1 h2.1);exact yx (by decide) (by omega)
theorem NT (l:IU Int) (n:Int) (h:l.length<1099511627777):FA (l.map intD) [.int .i64 n] 1 8:=by
 refine⟨?_,by simp;omega⟩;rw[G3];intro d hd;rcases FK.1 hd with hd|hd
 ·obtain⟨t,_,rfl⟩:=Gd.1 hd;rfl
 ·simp at hd;subst hd;rfl
section
variable {G:Nat->IQ (IU D)}
theorem LZ (env:IU Ev) (hl:env.length<1099511627776):PFnV Tryz.prog G 140 [.sl (env.map HO)] 3 (· = env.map HO):=by
 refine PFnV.walk (fn:=Tryz.f140) (code:=z6 Tryz.f140) mixed L0 Tryz.func140 (by kernel_rfl) tw ?_;apply @z7 _ (∀(b:Bool),(b=true->IT HO env=[])->(b=true->[]=IT HO env)/\(b=false->FA [] (IT HO env) (nat_lit 3) (nat_lit 32)/\IR (G6 ([]:IU D))+IR (IT HO env)=IR (G6 ([]:IU D)++IT HO env)/\3=3/\G6 ([]:IU D)++IT HO env=IT HO env))
 ·kernel_rfl
 have hc:=lx env;unfold yH at hc;refine λb hb=>⟨λh=>by rw[hb h],λ_=>⟨⟨by simpa using hc,by simp;omega⟩,?_⟩⟩;simp
def XV (a:IU Ev) (b:Nat) (c:IU Bd) (d:IU Int):IU Ev:=a++yo (HZ b c) d
def jR (a:IU Ev) (b:Nat) (c:IU Bd) (d:IU Int):IU D:=IT HO (XV a b c d)
def Oq (a:IU Int) (b:Nat):D:=IP .i64 (Hf (IB (z1 (IT intD a) (IJ (b:Int)) 0) default))
def Oo (a:IU Int) (b:Nat) (c:IU Bd):IU D:=G6 [Hd (G6 [(λ(x:Sh×Nat)=>match x with|(sh,j)=>GP sh (IB (z1 (IT intD a) (IJ (b:Int)) j) default)) (HX .i64,0),(λ(x:Sh×Nat)=>match x with|(sh,j)=>GP sh (IB (z1 (IT ID c) (IJ (b:Int)) j) default)) (HX .i64,0+1),(λ(x:Sh×Nat)=>match x with|(sh,j)=>GP sh (IB (z1 (IT ID c) (IJ (b:Int)) j) default)) (HI,0)])]
theorem h88 (env:IU Ev) (bs:IU Bd) (t:IU Int) (hl:env.length<1099511627776) (hb:bs.length<1099511627776) (ht:bs.length<=t.length):IK Tryz.prog G 88 [.sl (env.map HO),.sl (bs.map ID),wz t] (· = [.sl ((env++yo bs t).map HO)]):=by
 unfold wz;refine zu (LL [(3,ze (α:=Nat) Tryz.prog G L0 0 (z8 (z6 Tryz.f88) 0) [2,11,12] (λx=>x<=bs.length) (λx=>bs.length - x) (λx=>[(0,.vec 0 ((env++yo (bs.take x) t).map HO)),(13,.d (.int .i64 x))]) (λ_ x=>[.vec (env++yo (bs.take x) t).length 3]))]) Tryz.func88 ⟨_,rfl⟩ (zt zz) ?_;apply @z7 _ (PFnV Tryz.prog G 140 [II (IT HO env)] 3 λ(l:IU D)=>∃(x0:Nat),x0<=IR bs/\((l=jR env x0 bs t/\IT intD t=IT intD t/\IT ID bs=IT ID bs/\(↑(IR (IT ID bs)):Int)=(↑(IR (IT ID bs)):Int)/\(0:Int)=(x0:Int)/\IN)/\IR l=IR (XV env x0 bs t)/\IN)/\∀(x:Nat),x<=IR bs->(decide ((x:Int)<(↑(IR (IT ID bs)):Int))=true->((0:Int)<=(x:Int)/\(IT ID bs)[IJ (x:Int)]? = some (zr [HI,HX .i64] (IT ID bs) (IJ (x:Int))))/\((0:Int)<=(x:Int)/\(IT intD t)[IJ (x:Int)]? = some (Oq t x))/\(IR (XV env x bs t)=IR (jR env x bs t)/\3=3/\FA (jR env x bs t) [Hd [.str (Gc (IB (z1 (IT ID bs) (IJ (x:Int)) 0) default)),.int .i64 (Hf (IB (z1 (IT ID bs) (IJ (x:Int)) (0+1)) default)),Oq t x]] (nat_lit 3) (nat_lit 32))/\∃(y:Nat),y<=IR bs/\IR bs - y<IR bs - x/\(jR env x bs t++Oo t x bs=jR env y bs t/\IT intD t=IT intD t/\IT ID bs=IT ID bs/\(↑(IR (IT ID bs)):Int)=(↑(IR (IT ID bs)):Int)/\Hr .i64 ((x:Int)+1)=(y:Int)/\IN)/\IR (jR env x bs t)+IR (Oo t x bs)=IR (XV env y bs t)/\IN)/\(decide ((x:Int)<(↑(IR (IT ID bs)):Int))=false->[II (jR env x bs t)]=[II (IT HO (env++yo bs t))]))
 ·kernel_rfl
 delta jR XV Oq Oo;have hE:∀(l:IU Ev) (e:Ev),l.length<2199023255553->FA (l.map HO) [e.d] 3 32:=λl e h=>by have:=lx (l++[e]);unfold yH at this;refine⟨by simpa using this,by simp;omega⟩
 have hEl:∀x,(yo (bs.take x) t).length<=bs.length:=λx=>by unfold yo;simp;omega
 refine(LZ env hl).mono ?_;rintro _ rfl;refine⟨0,by omega,⟨⟨by simp[yo],rfl,rfl,rfl,rfl,trivial⟩,by simp[yo],trivial⟩,λx hx=>⟨λhlt=>?_,λhge=>?_⟩⟩
 ·simp only[H4,HS]at hlt;obtain⟨b,hbx,hm⟩:=zw (l:=bs) (x:=x) (by omega);obtain⟨v,hv,_⟩:=zw (l:=t) (x:=x) (by omega);have ei (n:Int):Hf (IB (some (IP .i64 n)) default)=n:=rfl;have es (n:Nm):Gc (IB (some (HW n)) default)=n:=rfl;have hg:0<=(x:Int)/\(IT ID bs)[x]? = some b.d:=⟨by omega,by rw[G5,hbx];rfl⟩;rw[HF];dsimp only;rw[w6 hbx,xE hbx,wr hbx,yK hv,ei,ei,es];have hlen:=hEl x;refine⟨hg,⟨by omega,xG hv⟩,⟨by simp,rfl,hE _ ⟨b.name,b.sort,v⟩ (by simp;omega)⟩,x+1,by omega,by omega,⟨?_,rfl,rfl,rfl,by rw[zx (by omega) (by omega)];rfl,trivial⟩,?_,trivial⟩
  ·rw[lr hbx hv,←DN,GI (l₂:=[_])];rfl
  ·rw[lr hbx hv];simp;omega
 ·simp only[H4,HH]at hge;rw[Gs (by omega)]
def tR (a:Sc) (b:Nat) (c:IU Bd):IU D:=IT intD (zM a (HZ b c))
def tQ (a:Sc):Prop:=IT H9 (Hk a)=IT H9 (Hk a)/\IT H8 (Hg a)=IT H8 (Hg a)/\IT Hy (Hi a)=IT Hy (Hi a)/\IT Hx (Hh a)=IT Hx (Hh a)/\IT H7 (Hn a)=IT H7 (Hn a)/\IN
theorem h134 (s:Sc) (bs:IU Bd) (hs:s.Fits) (hb:bs.length<1099511627776):IK Tryz.prog G 134 [s.d,.sl (bs.map ID)] (· = [wz (zM s bs)]):=by
 have h158:=λk=>h158 (G:=G) s k hs;rw[zj]at *;unfold wz;refine zu (LL [(3,ze (α:=Nat) Tryz.prog G L0 0 (z8 (z6 Tryz.f134) 0) [2,8,9] (λx=>x<=bs.length) (λx=>bs.length - x) (λx=>[(5,.vec 1 ((zM s (bs.take x)).map intD)),(10,.d (.int .i64 x))]) (λH x=>[H.getD 0 .dead,.vec x 1]))]) Tryz.func134 ⟨_,rfl⟩ (zt zz) ?_;apply @z7 _ (∃(x0:Nat),x0<=IR bs/\((IA 0 0=IA 0 0/\([]=tR s x0 bs/\IR ([]:IU D)<=x0)/\IT ID bs=IT ID bs/\(↑(IR (IT ID bs)):Int)=(↑(IR (IT ID bs)):Int)/\(0:Int)=(x0:Int)/\IN)/\tQ s/\IN)/\∀(x:Nat),x<=IR bs->(decide ((x:Int)<(↑(IR (IT ID bs)):Int))=true->((0:Int)<=(x:Int)/\(IT ID bs)[IJ (x:Int)]? = some (zr [HI,HX .i64] (IT ID bs) (IJ (x:Int))))/\IK Tryz.prog G 158 [Hd [.sl (IT H9 (Hk s)),.sl (IT H8 (Hg s)),.sl (IT Hy (Hi s)),.sl (IT Hx (Hh s)),.sl (IT H7 (Hn s))],.int .i64 (Hf (IB (z1 (IT ID bs) (IJ (x:Int)) (0+1)) default))] λ(rs:IU D)=>∃(n:Int),rs=[IP .i64 n]/\(x=IR (tR s x bs)/\1=1/\FA (tR s x bs) [IP .i64 n] (nat_lit 1) (nat_lit 8))/\∃(y:Nat),y<=IR bs/\IR bs - y<IR bs - x/\(IA 0 0=IA 0 0/\tR s x bs++G6 [Wz false [IP .i64 n]]=tR s y bs/\IT ID bs=IT ID bs/\(↑(IR (IT ID bs)):Int)=(↑(IR (IT ID bs)):Int)/\Hr .i64 ((x:Int)+1)=(y:Int)/\IN)/\tQ s/\IR (tR s x bs)+IR (G6 [Wz false [IP .i64 n]])=y/\IN)/\(decide ((x:Int)<(↑(IR (IT ID bs)):Int))=false->[II (tR s x bs)]=[II (IT intD (zM s bs))]))
 ·kernel_rfl
 delta tR tQ;refine⟨0,by omega,⟨⟨rfl,⟨by simp[zM],by simp⟩,rfl,rfl,rfl,trivial⟩,⟨rfl,rfl,rfl,rfl,rfl,trivial⟩,trivial⟩,λx hx=>⟨λhlt=>?_,λhge=>?_⟩⟩
 ·simp only[H4,HS]at hlt;obtain⟨z,hz,hm⟩:=zw (l:=bs) (x:=x) (by omega);have ei (n:Int):Hf (IB (some (IP .i64 n)) default)=n:=rfl;rw[HF,w6 hz,wr hz,ei];have hl0:(zM s (bs.take x)).length=x:=by rw[tl,FS];omega
  refine⟨⟨by omega,by rw[G5,hz];rfl⟩,(h158 z.sort).use ⟨_,rfl,⟨by rw[H4,hl0],rfl,NT _ _ (by rw[hl0];omega)⟩,x+1,by omega,by omega,⟨rfl,?_,rfl,rfl,by rw[zx (by omega) (by omega)];rfl,trivial⟩,⟨rfl,rfl,rfl,rfl,rfl,trivial⟩,?_,trivial⟩⟩
  ·rw[VE s hz,GI];rfl
  ·rw[H4,hl0];rfl
 ·simp only[H4,HH]at hge;rw[Gs (by omega)]
def VD (a:IU D) (b:Nat):D:=IP .i64 (Hf (IB (z1 a (IJ (b:Int)) 0) default))
theorem h116 (s:Sc) (bs:IU Bd) (hs:s.Fits) (hb:bs.length<1099511627776):IK Tryz.prog G 116 [s.d,.sl (bs.map ID)] (· = [.int .i64 (zR 1048577 s bs)]):=by
 have h134:=h134 (G:=G) s bs hs hb;rw[zj]at *;refine zu (LL [(3,ze (α:=Nat) Tryz.prog G L0 0 (z8 (z6 Tryz.f116) 0) [10,11] (λx=>x<=bs.length) (λx=>bs.length - x) (λx=>[(5,.d (.int .i64 (zR 1048577 s (bs.take x)))),(12,.d (.int .i64 x))]) (λH _=>H))]) Tryz.func116 ⟨_,rfl⟩ (zt zz) ?_;apply @z7 _ (IK Tryz.prog G 134 [Hd [.sl (IT H9 (Hk s)),.sl (IT H8 (Hg s)),.sl (IT Hy (Hi s)),.sl (IT Hx (Hh s)),.sl (IT H7 (Hn s))],.sl (IT ID bs)] λ(rs:IU D)=>∃(l:IU D),rs=[II l]/\∃(x0:Nat),x0<=IR bs/\((1=zR 1048577 s (HZ x0 bs)/\l=l/\(↑(IR l):Int)=(↑(IR l):Int)/\(0:Int)=(x0:Int)/\IN)/\tQ s/\IN)/\∀(x:Nat),x<=IR bs->(decide ((x:Int)<(↑(IR l):Int))=true->((0:Int)<=(x:Int)/\l[IJ (x:Int)]? = some (VD l x))/\IK Tryz.prog G 133 [IP .i64 (zR 1048577 s (HZ x bs)),VD l x] λ(rs:IU D)=>∃(n:Int),rs=[IP .i64 n]/\∃(y:Nat),y<=IR bs/\IR bs - y<IR bs - x/\(n=zR 1048577 s (HZ y bs)/\l=l/\(↑(IR l):Int)=(↑(IR l):Int)/\Hr .i64 ((x:Int)+1)=(y:Int)/\IN)/\tQ s/\IN)/\(decide ((x:Int)<(↑(IR l):Int))=false->[IP .i64 (zR 1048577 s (HZ x bs))]=[IP .i64 (zR 1048577 s bs)]))
 ·kernel_rfl
 delta tQ tR VD;refine h134.use ⟨_,rfl,0,by omega,⟨⟨rfl,rfl,rfl,rfl,trivial⟩,⟨rfl,rfl,rfl,rfl,rfl,trivial⟩,trivial⟩,λx hx=>⟨λhlt=>?_,λhge=>?_⟩⟩
 ·simp only[H4,tl,HS]at hlt;obtain⟨z,hz,hm⟩:=zw (l:=bs) (x:=x) (by omega);have hz':(zM s bs)[x]? = some (zU s z.sort):=by unfold zM;rw[G5,hz];rfl
  have ei (n:Int):Hf (IB (some (IP .i64 n)) default)=n:=rfl;rw[HF,yK hz',ei];refine⟨⟨by omega,xG hz'⟩,(Mo _ _).use ⟨_,rfl,x+1,by omega,by omega,⟨?_,rfl,rfl,by rw[zx (by omega) (by omega)];rfl,trivial⟩,⟨rfl,rfl,rfl,rfl,rfl,trivial⟩,trivial⟩⟩;have hb1:=yW hs (c:=1048577) (by decide) (bs.take x);have hc:=rr hs z.sort;have hw:=rq hb1.1 (by omega) hc.1 hc.2;rw[kQ 1048577 s hz,hw.1]
 ·simp only[H4,tl,HH]at hge;rw[Gs (by omega)]
def fB (a:Nat×Int) (b:Fm) (c:Sc):Prop:=Hw a<=IR (Hz b)/\Fm.broadsP c (GM (Hw a) (Hz b)) (HL a)=Fm.broadsP c (Hz b) 0/\0<=HL a/\HL a<=1048577
def fA (a:Fm):Prop:=IT HV (Hz a)=IT HV (Hz a)
def pe (a:Fm):Int:=(↑(IR (IT HV (Hz a))):Int)
def aB (a:Sc) (b:Fm):Prop:=tQ a/\(Hj b=Hj b/\HE b=HE b/\HB b=HB b/\IT Hq (HM b)=IT Hq (HM b)/\IT ID (HN b)=IT ID (HN b)/\fA b/\IN)/\IN
def aA (a:Fm) (b:Nat×Int):D:=zr [HX .i64,HI,HX .i64,HK,HK,HK] (IT HV (Hz a)) (IJ (↑(Hw b):Int))
def kA (a:Sc):D:=Hd [.sl (IT H9 (Hk a)),.sl (IT H8 (Hg a)),.sl (IT Hy (Hi a)),.sl (IT Hx (Hh a)),.sl (IT H7 (Hn a))]
def pd (a:IU D) (b:Int):Prop:=a=[IP .i64 b]
theorem h121 (s:Sc) (f:Fm) (hs:s.Fits) (hf:f.wt<1099511627776):IK Tryz.prog G 121 [s.d,f.d] (· = [.int .i64 (f.broadP s)]):=by
 induction f using Ex with
 |h f ih =>
 have hwt:=f.wt_eq;have hwl:=rG f.l;have h116:=h116 (G:=G) s f.bs hs (by omega);rw[zj]at *;rw[yf f];refine zu (LL [(3,ze (α:=Nat×Int) Tryz.prog G L0 0 (z8 (z6 Tryz.f121) 0) [2,3,9,10] (λx=>x.1<=f.l.length/\Fm.broadsP s (f.l.drop x.1) x.2=Fm.broadsP s f.l 0/\0<=x.2/\x.2<=1048577) (λx=>f.l.length - x.1) (λx=>[(5,.d (.int .i64 x.2)),(11,.d (.int .i64 x.1))]) (λH _=>H))]) Tryz.func121 ⟨_,rfl⟩ (zt zz) ?_;apply @z7 _ (∃(x0:Nat×Int),fB x0 f s/\((IA 0 0=IA 0 0/\IA 1 0=IA 1 0/\0=HL x0/\fA f/\pe f=pe f/\(0:Int)=(↑(Hw x0):Int)/\IN)/\aB s f)/\∀(x:Nat×Int),fB x f s->(decide ((↑(Hw x):Int)<pe f)=true->((0:Int)<=(↑(Hw x):Int)/\(IT HV (Hz f))[IJ (↑(Hw x):Int)]? = some (aA f x))/\IK Tryz.prog G 121 [kA s,aA f x] λ(rs:IU D)=>∃(n:Int),pd rs n/\∃(y:Nat×Int),fB y f s/\IR (Hz f) - Hw y<IR (Hz f) - Hw x/\(IA 0 0=IA 0 0/\IA 1 0=IA 1 0/\(if 1048577<Hr .i64 (HL x+n)then 1048577 else Hr .i64 (HL x+n))=HL y/\fA f/\pe f=pe f/\Hr .i64 ((↑(Hw x):Int)+1)=(↑(Hw y):Int)/\IN)/\aB s f)/\(decide ((↑(Hw x):Int)<pe f)=false->IK Tryz.prog G 116 [kA s,.sl (IT ID (HN f))] λ(rs:IU D)=>∃(n:Int),pd rs n/\IK Tryz.prog G 133 [IP .i64 (HL x),.int .i64 n] λ(rs:IU D)=>∃(n:Int),pd rs n/\[IP .i64 (if 1048577<Hr .i64 (n+1)then 1048577 else Hr .i64 (n+1))]=[IP .i64 (Fm.broadP s f)]))
 ·kernel_rfl
 delta fB fA pe aB tQ tR aA kA pd;refine⟨(0,0),⟨GD _,rfl,by decide,by decide⟩,⟨⟨rfl,rfl,rfl,rfl,rfl,rfl,trivial⟩,⟨rfl,rfl,rfl,rfl,rfl,trivial⟩,⟨rfl,rfl,rfl,rfl,rfl,rfl,trivial⟩,trivial⟩,λx hx=>⟨λhlt=>?_,λhge=>?_⟩⟩
 ·simp only[H4,HS]at hlt;obtain⟨z,hz,hm⟩:=zw (l:=f.l) (x:=x.1) (by omega);have hzw:=CO hm;obtain⟨i1,i2,i3,i4⟩:=hx;rw[HF,wZ hz];have hb:=cQ hs z;have hcap:=yx (c:=1048577) (x:=x.2+z.broadP s) (by decide) (by omega);refine⟨⟨by omega,by rw[G5,hz];rfl⟩,(ih z hm (by omega)).use ⟨_,rfl,(x.1+1,zF 1048577 (x.2+z.broadP s)),⟨by show x.1+1<=_;omega,?_,hcap.1,hcap.2⟩,by show _ - (x.1+1)<_;omega,⟨rfl,rfl,?_,rfl,rfl,by rw[zx (by omega) (by omega)];rfl,trivial⟩,⟨rfl,rfl,rfl,rfl,rfl,trivial⟩,⟨rfl,rfl,rfl,rfl,rfl,rfl,trivial⟩,trivial⟩⟩
  ·rw[←i2,ye hz,Fm.broadsP]
  ·rw[zx (by omega) (by omega)];rfl
 ·simp only[H4,HH]at hge;obtain⟨i1,i2,i3,i4⟩:=hx;rw[Fx (by omega),Fm.broadsP]at i2;have hmb:=yW hs (c:=1048577) (by decide) f.bs;have hwm:=rq i3 (by omega) hmb.1 (by omega);have hcap:=yx (c:=1048577) (x:=x.2*zR 1048577 s f.bs) (by decide) hwm.2;refine h116.use ⟨_,rfl,(Mo _ _).use ⟨_,rfl,?_⟩⟩;rw[hwm.1,zx (by omega) (by omega),Fm.broadP_eq,←i2];rfl
def Sk (a:Nat×Int×Int) (b:IU Ru) (c:Sc):Prop:=Hw a<=IR b/\wV c (GM (Hw a) b) (Hw (HL a)) (HL (HL a))=wV c b 0 0/\0<=Hw (HL a)/\Hw (HL a)<=(1048577:Int)*(↑(Hw a):Int)/\0<=HL (HL a)/\HL (HL a)<=1048577
def ng (a:Nat×Int×Int):Nat:=IJ (↑(Hw a):Int)
theorem h85 (s:Sc) (l:IU Ru) (hs:s.Fits) (hl:l.length<1099511627776) (hw:rwts l<1099511627776):IK Tryz.prog G 85 [s.d,.sl (l.map Hm)] (· = [.bool (wV s l 0 0)]):=by
 have h116:=λbs h=>h116 (G:=G) s bs hs h;have h121:=λf h=>h121 (G:=G) s f hs h;rw[zj]at *;refine zu (LL [(3,ze (α:=Nat×Int×Int) Tryz.prog G L0 0 (z8 (z6 Tryz.f85) 0) [2,10,11] (λx=>x.1<=l.length/\wV s (l.drop x.1) x.2.1 x.2.2=wV s l 0 0/\0<=x.2.1/\x.2.1<=1048577*x.1/\0<=x.2.2/\x.2.2<=1048577) (λx=>l.length - x.1) (λx=>[(5,.d (.int .i64 x.2.1)),(6,.d (.int .i64 x.2.2)),(12,.d (.int .i64 x.1))]) (λH _=>H))]) Tryz.func85 ⟨_,rfl⟩ (zt zz) ?_;apply @z7 _ (∃(x0:Nat×Int×Int),Sk x0 l s/\((IA 0 0=IA 0 0/\0=Hw (HL x0)/\0=HL (HL x0)/\IT Hm l=IT Hm l/\(↑(IR (IT Hm l)):Int)=(↑(IR (IT Hm l)):Int)/\(0:Int)=(↑(Hw x0):Int)/\IN)/\tQ s/\IN)/\∀(x:Nat×Int×Int),Sk x l s->(decide ((↑(Hw x):Int)<(↑(IR (IT Hm l)):Int))=true->((0:Int)<=(↑(Hw x):Int)/\(IT Hm l)[ng x]? = some (zr [HI,EL,HX .i64,HK,HX .i64,HI,HX .i64,HK,HK,HK] (IT Hm l) (ng x)))/\IK Tryz.prog G 116 [kA s,.sl (Gl (IB (z1 (IT Hm l) (ng x) (0+1+1+1)) default))] λ(rs:IU D)=>∃(n:Int),pd rs n/\IK Tryz.prog G 121 [kA s,.agg [.int .i64 (Hf (IB (z1 (IT Hm l) (ng x) (0+1+1+1+1)) default)),.str (Gc (IB (z1 (IT Hm l) (ng x) (0+1+1+1+1+1)) default)),.int .i64 (Hf (IB (z1 (IT Hm l) (ng x) (0+1+1+1+1+1+1)) default)),.sl (Gl (IB (z1 (IT Hm l) (ng x) (0+1+1+1+1+1+1+1)) default)),.sl (Gl (IB (z1 (IT Hm l) (ng x) (0+1+1+1+1+1+1+1+1)) default)),.sl (Gl (IB (z1 (IT Hm l) (ng x) (0+1+1+1+1+1+1+1+1+1)) default))]] λ(rs:IU D)=>∃(n_1:Int),pd rs n_1/\IK Tryz.prog G 133 [IP .i64 n,.int .i64 n_1] λ(rs:IU D)=>∃(n_2:Int),pd rs n_2/\∃(y:Nat×Int×Int),Sk y l s/\IR l - Hw y<IR l - Hw x/\(IA 0 0=IA 0 0/\Hr .i64 (Hw (HL x)+n)=Hw (HL y)/\(if 1048577<Hr .i64 (HL (HL x)+n_2)then 1048577 else Hr .i64 (HL (HL x)+n_2))=HL (HL y)/\IT Hm l=IT Hm l/\(↑(IR (IT Hm l)):Int)=(↑(IR (IT Hm l)):Int)/\Hr .i64 ((↑(Hw x):Int)+1)=(↑(Hw y):Int)/\IN)/\tQ s/\IN)/\(decide ((↑(Hw x):Int)<(↑(IR (IT Hm l)):Int))=false->[IL (bif decide (Hw (HL x)>4096)then true else decide (HL (HL x)>1048576))]=[IL (wV s l 0 0)]))
 ·kernel_rfl
 delta Sk tQ tR ng kA fB fA pe aB aA pd;refine⟨(0,0,0),⟨GD _,rfl,by decide,by decide,by decide,by decide⟩,⟨⟨rfl,rfl,rfl,rfl,rfl,rfl,trivial⟩,⟨rfl,rfl,rfl,rfl,rfl,trivial⟩,trivial⟩,λx hx=>⟨λhlt=>?_,λhge=>?_⟩⟩
 ·simp only[H4,HS]at hlt;obtain⟨z,hz,hm⟩:=zw (l:=l) (x:=x.1) (by omega);obtain⟨i1,i2,i3,i4,i5,i6⟩:=hx;have hzw:=rwts_mem hm;have hzw2:z.wt=z.name.length+nq z.each+z.body.wt:=rfl;have hew:z.each.length<=nq z.each:=by unfold nq;omega
  have ei (n:Int):Hf (IB (some (IP .i64 n)) default)=n:=rfl;have es (n:Nm):Gc (IB (some (HW n)) default)=n:=rfl;have el (l:IU D):Gl (IB (some (II l)) default)=l:=rfl;rw[HF,sX hz,sC hz,sB hz,sA hz,r6 hz,r7 hz,r8 hz,r9 hz,ei,ei,es,el,el,el,el];have hg:0<=(x.1:Int)/\(IT Hm l)[x.1]? = some z.d:=⟨by omega,by rw[G5,hz];rfl⟩;have hmb:=yW hs (c:=1048577) (by decide) z.each;have hbb:=cQ hs z.body;have h121z:=h121 z.body (by omega);rw[yf z.body]at h121z;have hwm:=rq hmb.1 (by omega) hbb.1 (by omega);have hcm:=yx (c:=1048577) (x:=zR 1048577 s z.each*z.body.broadP s) (by decide) hwm.2;have hcb:=yx (c:=1048577) (x:=x.2.2+zF 1048577 (zR 1048577 s z.each*z.body.broadP s)) (by decide) (by omega);have i2':=i2;rw[ye hz,wV]at i2';refine⟨hg,(h116 z.each (by omega)).use ⟨_,rfl,h121z.use ⟨_,rfl,(Mo _ _).use ⟨_,rfl,(x.1+1,x.2.1+zR 1048577 s z.each,zF 1048577 (x.2.2+zF 1048577 (zR 1048577 s z.each*z.body.broadP s))),⟨by show x.1+1<=_;omega,i2',by show 0<=x.2.1+_;omega,by show x.2.1+_<=1048577*((x.1+1:Nat):Int);omega,hcb.1,hcb.2⟩,by show _ - (x.1+1)<_;omega,⟨rfl,?_,?_,rfl,rfl,by rw[zx (by omega) (by omega)];rfl,trivial⟩,⟨rfl,rfl,rfl,rfl,rfl,trivial⟩,trivial⟩⟩⟩⟩
  ·rw[zx (by omega) (by omega)]
  ·rw[hwm.1,zx (by omega) (by omega)];rfl
 ·simp only[H4,HH]at hge;obtain⟨i1,i2,i3⟩:=hx;rw[Fx (by omega),wV]at i2;rw[←i2,zH]
end
end
end Go.Fo
open Go.Fo.Ev renaming b->GL
open Go.Fo.Fm renaming broads->Fw,broadsP->Ej,sem->GJ,semL->Fh
namespace Go.Fo
open Go Go.Sx
theorem ou {c C x:Int}(h:c<=C):zF c (zF C x)=zF c x:=by unfold zF;split<;>split<;>(try split)<;>omega
theorem ot {c a b:Int}(hb:0<=b):zF c (zF c a+b)=zF c (a+b):=by unfold zF;split<;>split<;>(try split)<;>omega
theorem XU {c a b:Int}(ha:0<=a) (hb:0<=b) (hc:0<=c):zF c (a+zF c b)=zF c (a+b):=by unfold zF;split<;>split<;>(try split)<;>omega
theorem On {c C a b:Int}(h:c<=C) (hb:0<=b):zF c (zF C a+b)=zF c (a+b):=by unfold zF;split<;>split<;>(try split)<;>omega
theorem Z0 {c a b:Int}(hc:1<=c) (hb:0<=b):zF c (zF c a*b)=zF c (a*b):=by
 unfold zF;by_cases h:c<a
 ·rw[Hv h];rcases Ce hb with h1|h1
  ·have h2:c*1<=c*b:=Av (by omega) (by omega);have h3:a*1<=a*b:=Av (by omega) (by omega);split<;>split<;>omega
  ·rw[←h1,zyR,zyR]
 ·rw[IE h]
theorem XT {c a b:Int}(hc:1<=c) (ha:0<=a):zF c (a*zF c b)=zF c (a*b):=by rw[zyO,Z0 hc ha,zyO]
theorem Om (s:Sc) (k:Int):0<=zU s k:=by unfold zU;omega
theorem XS (s:Sc) (bs:IU Bd):zR 1048577 s bs=zF 1048577 (zR 2097152 s bs):=by
 unfold zR;have key:∀(bs:IU Bd) (n:Int),bs.foldl (λn b=>zF 1048577 (n*zU s b.sort)) (zF 1048577 n)=zF 1048577 (bs.foldl (λn b=>zF 2097152 (n*zU s b.sort)) n):=by
  intro bs;induction bs with
  |nil=>intro n;rfl
  |cons b r ih =>
   intro n;rw[CY,CY,Z0 (by decide) (Om s b.sort),←ih,ou (by decide)]
 exact key bs 1
theorem e8 {s:Sc}(hs:s.Fits):∀(l:IU Fm) (n:Int),0<=n->(∀x∈l,x.broadP s=zF 1048577 (x.broad 2097152 s))->Ej s l (zF 1048577 n)=zF 1048577 (Fw 2097152 s l n)
 |[],n,_,_=>by rw[Ej,Fw]
 |x::r,n,hn,h=>by have hx:=xD hs (c:=2097152) (by decide) x;rw[Ej,Fw,h x (by simp),XU (yx (by decide) hn).1 hx.1 (by decide),ot hx.1];have:=e8 hs r (zF 2097152 (n+x.broad 2097152 s)) (yx (by decide) (by omega)).1 λy hy=>h y (by simp[hy]);rw[←this,ou (by decide)]
theorem Rc {s:Sc}(hs:s.Fits) (f:Fm):f.formB=true->f.broadP s=zF 1048577 (f.broad 2097152 s):=by
 induction f using Ex with
 |h f ih =>
 intro hf;have hsh:=vx hf;have hsub:∀x∈f.l,x.formB=true:=by
  cases hsh with
  |const k hk=>intro x hx;cases hx
  |atom k a b hk=>intro x hx;cases hx
  |cmp sg a b=>intro x hx;cases hx
  |not x hx=>intro y hy;simp[Hz]at hy;subst hy;exact hx
  |two k x y hk hx hy=>intro z hz;simp[Hz]at hz;rcases hz with rfl|rfl<;>assumption
  |quant k bs x hk hb h1 h6 hx=>intro y hy;simp[Hz]at hy;subst hy;exact hx
  |count k n bs x hk h0 hn hb h1 h6 hx=>intro y hy;simp[Hz]at hy;subst hy;exact hx
 have hB:=e8 hs f.l 0 (by decide) λx hx=>ih x hx (hsub x hx);have hBb:=cn hs (c:=2097152) (by decide) f.l 0 (by decide) (by decide);have hMb:=yW hs (c:=2097152) (by decide) f.bs;have e0:zF 1048577 0=0:=by decide
 rw[e0]at hB;rw[Fm.broadP_eq,Fm.broad_eq,hB,XS,ou (by decide)];have hnn:=DK hBb.1 hMb.1;rw[Z0 (by decide) (yx (by decide) hMb.1).1,XT (by decide) hBb.1,ot (by decide)];by_cases hk:f.kind>=14
 ·rw[Hv hk,On (by decide) (by decide)]
 ·rw[IE hk];have hbs:f.bs=[]:=by
   cases hsh with
   |const k hk=>rfl
   |atom k a b hk=>rfl
   |cmp sg a b=>rfl
   |not x hx=>rfl
   |two k x y hk hx hy=>rfl
   |quant k bs x hk' hb h1 h6 hx=>exact Hu (show k>=14 by omega) hk
   |count k n bs x hk' h0 hn hb h1 h6 hx=>exact Hu (show k>=14 by omega) hk
  rw[hbs];show zF 1048577 (Fw 2097152 s f.l 0*1+1)=_;rw[Int.mul_one]
theorem ew {s:Sc}(hs:s.Fits):∀(l:IU Ru) (n b:Int),4096<n->wV s l n b=true
 |[],n,b,h=>by rw[wV];simp[h]
 |r::q,n,b,h=>by rw[wV];have:=yW hs (c:=1048577) (by decide) r.each;exact ew hs q _ _ (by omega)
theorem XR {s:Sc}(hs:s.Fits):∀(l:IU Ru) (n b n' b':Int),(∀r∈l,r.body.formB=true)->0<=n->0<=n'->0<=b->0<=b'->zF 4097 n=zF 4097 n'->zF 1048577 b=zF 1048577 b'->wV s l n b=xF s l n' b'
 |[],n,b,n',b',_,_,_,_,_,h1,h2=>by
  rw[wV,xF];have e1:decide (n>4096)=decide (n'>4096):=by rw[Ge,HS,HS];unfold zF at h1;split at h1<;>split at h1<;>omega
  have e2:decide (b>1048576)=decide (b'>1048576):=by rw[Ge,HS,HS];unfold zF at h2;split at h2<;>split at h2<;>omega
  rw[e1,e2]
 |r::q,n,b,n',b',hl,g1,g2,g3,g4,h1,h2=>by
  rw[wV,xF];have hm:=yW hs (c:=2097152) (by decide) r.each;have hbr:=xD hs (c:=2097152) (by decide) r.body;have hbc:=Rc hs r.body (hl r (by simp));have hmc:=XS s r.each;generalize hM:zR 2097152 s r.each=M at *;generalize hMp:zR 1048577 s r.each=Mp at *;generalize hBr:r.body.broad 2097152 s=Br at *;by_cases hbig:M>4096
  ·rw[Hv hbig];refine ew hs q _ _ ?_;have:Mp>4096:=by rw[hmc];unfold zF;split<;>omega
   omega
  ·rw[IE hbig];have hMe:Mp=M:=by rw[hmc];unfold zF;split<;>omega
   rw[hMe,hbc];have hp:=DK hm.1 hbr.1;have hq:=(yx (c:=1048577) (by decide) hp);refine XR hs q _ _ _ _ (λx hx=>hl x (by simp[hx])) (by omega) (yx (by decide) (by omega)).1 (yx (by decide) (by have:=(yx (c:=1048577) (x:=M*zF 1048577 Br) (by decide) (DK hm.1 (yx (by decide) hbr.1).1)).1;omega)).1 (yx (by decide) (by omega)).1 ?_ ?_
   ·rw[ou (by decide),←ot hm.1,h1,ot hm.1]
   ·rw[ou (by decide),XT (by decide) hm.1,XU g3 hp (by decide),ou (by decide),←ot hp,h2,ot hp]
theorem XQ {s:Sc}{l:IU Ru}(hs:s.Fits) (h:(xn l).2=0):wV s l 0 0=xF s l 0 0 :=XR hs l 0 0 0 0 (λr hr=>(PM (rules_ok l [] 0 h r hr)).1) (by decide) (by decide) (by decide) (by decide) rfl rfl
theorem rH {c:Nat}(hc:0<c):∀(l:IU (IU Int)) (i:Nat),(l.flatMap (pl c))[i]? = (l[i / c]?).map λt=>t++[((i % c:Nat):Int)]
 |[],i=>by simp
 |t::r,i=>by
  rw[CA];rcases G4 i c with h|h
  ·rw[Ez (by rw[lu];exact h),BS h,Ai h];unfold pl;rw[G5,IU.getElem?_range h];rfl
  ·rw[EG (by rw[lu];exact h),lu,rH hc r (i - c)];obtain⟨j,rfl⟩:∃j,i=j+c:=⟨i - c,by omega⟩;rw[CC,zxD _ hc,Nat.add_mod_right];rfl
def cN (s:Sc) (b:Bd):Nat:=(zf s b.sort).length
def nf (s:Sc):IU Bd->Nat
 |[]=>1
 |b::r=>cN s b*nf s r
theorem eu {s:Sc}{bs:IU Bd}{x:Nat}{b:Bd}(h:bs[x]? = some b) (hc:0<cN s b) (i:Nat):(zg s (bs.take (x+1)))[i]? = ((zg s (bs.take x))[i / cN s b]?).map λt=>t++[((i % cN s b:Nat):Int)]:=by rw[tT s h];exact rH hc _ i
theorem ib {s:Sc}{bs:IU Bd}{x:Nat}{b:Bd}(h:bs[x]? = some b):nf s (bs.drop x)=cN s b*nf s (bs.drop (x+1)):=by rw[ye h,nf]
theorem j0 (s:Sc) (bs:IU Bd):∀(d x:Nat),x+d=bs.length->(zg s (bs.take x)).length*nf s (bs.drop x)=(zg s bs).length
 |0,x,h=>by
  have:x=bs.length:=by omega
  subst this;rw[FR,zys,nf,B8]
 |d+1,x,h=>by obtain⟨b,hb,_⟩:=zw (l:=bs) (x:=x) (by omega);have ih:=j0 s bs d (x+1) (by omega);rw[tT s hb,vZ]at ih;rw[ib hb,←ih,zya];rfl
theorem oo {s:Sc}{bs:IU Bd}(hpos:∀b∈bs,0<cN s b):∀(d x q:Nat),x+d=bs.length->(zg s bs)[q*nf s (bs.drop x)]? = ((zg s (bs.take x))[q]?).map λt=>t++G8 d 0
 |0,x,q,h=>by
  have:x=bs.length:=by omega
  subst this;rw[FR,zys,nf,B8];simp
 |d+1,x,q,h=>by obtain⟨b,hb,hm⟩:=zw (l:=bs) (x:=x) (by omega);have hc:=hpos b hm;have ih:=oo hpos d (x+1) (q*cN s b) (by omega);rw[ib hb,←zya,ih,eu hb hc,zxJ _ hc,Nat.mul_mod_left,IQ.map_map];congr 1;funext t;simp[Am]
theorem er {s:Sc}{bs:IU Bd}{b:Bd}(hb:b∈bs) (hc:cN s b=0):zg s bs=[]:=by
 obtain⟨x,hx,he⟩:=EF.1 hb;have hx':bs[x]? = some b:=by rw[Ff hx,he]
 have h1:=j0 s bs (bs.length - x) x (by omega);rw[ib hx',hc,AT,Nat.mul_zero]at h1;exact Df h1.symm
def w9 (s:Sc) (bs:IU Bd) (x q:Nat):IU Int:=((zg s (bs.take x))[q - 1]?).getD []++G8 (bs.length - x) 0
def xz (s:Sc) (bs:IU Bd) (k:Nat):IU Int:=((zg s bs)[k]?).getD []
theorem om {s:Sc}{bs:IU Bd}(k:Nat):w9 s bs bs.length (k+1)=xz s bs k:=by unfold w9 xz;rw[FR];simp
theorem ol {s:Sc}{bs:IU Bd}(hpos:∀b∈bs,0<cN s b):xz s bs 0=G8 bs.length 0:=by have:=oo hpos bs.length 0 0 (by omega);rw[AT]at this;unfold xz;rw[this];rfl
structure Odo (s:Sc) (bs:IU Bd) (k x q:Nat):Prop where
 le:x<=bs.length
 one:1<=q
 num:q*nf s (bs.drop x)=k+1
 lt:q<=(zg s (bs.take x)).length
theorem Odo.start {s:Sc}{bs:IU Bd}{k:Nat}(hk:k<(zg s bs).length):Odo s bs k bs.length (k+1):=by
 refine⟨GE _,by omega,?_,?_⟩
 ·rw[zys,nf,B8]
 ·rw[FR];omega
theorem cP (s:Sc):zg s []=[[]]:=rfl
theorem Odo.split {s:Sc}{bs:IU Bd}{k x q:Nat}(hpos:∀b∈bs,0<cN s b) (h:Odo s bs k (x+1) q):∃(b:Bd) (t:IU Int),bs[x]? = some b/\(zg s (bs.take x))[(q - 1) / cN s b]? = some t/\t.length=x/\w9 s bs (x+1) q=t++(((q - 1) % cN s b:Nat):Int)::G8 (bs.length - (x+1)) 0:=by
 obtain⟨b,hb,hm⟩:=zw (l:=bs) (x:=x) (by have:=h.le;omega);have hc:=hpos b hm;have hlt:=h.lt;have h1:=h.one;have hs:=eu (s:=s) hb hc (q - 1);have hget:(zg s (bs.take (x+1)))[q - 1]? = some ((zg s (bs.take (x+1)))[q - 1]'(by omega)):=Ff (by omega);rw[hget]at hs;cases ht:(zg s (bs.take x))[(q - 1) / cN s b]? with
 |none=>rw[ht]at hs;cases hs
 |some t =>
  rw[ht]at hs;refine⟨b,t,hb,ht,o8 s bs x (by have:=h.le;omega) t (GS ht),?_⟩;unfold w9;rw[hget,hs];simp
theorem Odo.carry {s:Sc}{bs:IU Bd}{k x q:Nat}{b:Bd}{t:IU Int}(hpos:∀b∈bs,0<cN s b) (h:Odo s bs k (x+1) q) (hb:bs[x]? = some b) (ht:(zg s (bs.take x))[(q - 1) / cN s b]? = some t) (hd:(q - 1) % cN s b+1=cN s b): Odo s bs k x (q / cN s b)/\w9 s bs x (q / cN s b)=t++0::G8 (bs.length - (x+1)) 0:=by
 have hc:=hpos b (GS hb);have h1:=h.one;obtain⟨m,hm⟩:∃m,q=m*cN s b+cN s b:=⟨(q - 1) / cN s b,by have:=BQ (q - 1) (cN s b);rw[Cy]at this;omega⟩;have hq:q / cN s b=m+1:=by rw[hm,zxD _ hc,zxJ _ hc]
 have hq1:(q - 1) / cN s b=m:=by
  have e:q - 1=m*cN s b+(cN s b - 1):=by omega
  rw[e,Cy,zyj hc,BS (by omega)];rfl
 rw[hq1]at ht;rw[hq];have hle:=h.le;refine⟨⟨by omega,by omega,?_,?_⟩,?_⟩
 ·have hn:=h.num;rw[ib hb,←hn,hm,←zya,FC,Nat.one_mul]
 ·rcases G4 m (zg s (bs.take x)).length with h' |h'
  ·exact h'
  ·rw[Gt h']at ht;cases ht
 ·unfold w9;rw[CC,ht];have e:bs.length - x=(bs.length - (x+1))+1:=by omega
  rw[e,Am];rfl
theorem Odo.step {s:Sc}{bs:IU Bd}{k x q:Nat}{b:Bd}{t:IU Int}(hpos:∀b∈bs,0<cN s b) (h:Odo s bs k (x+1) q) (hb:bs[x]? = some b) (ht:(zg s (bs.take x))[(q - 1) / cN s b]? = some t) (hd:¬ (q - 1) % cN s b+1=cN s b):(zg s bs)[k+1]? = some (t++(((q - 1) % cN s b:Nat)+1:Int)::G8 (bs.length - (x+1)) 0):=by
 have hc:=hpos b (GS hb);have h1:=h.one;have hle:=h.le;have hz:=oo hpos (bs.length - (x+1)) (x+1) q (by omega);rw[h.num,eu hb hc]at hz;have hm:=By (q - 1) hc;have hdm:=BQ (q - 1) (cN s b);have e:q=cN s b*((q - 1) / cN s b)+((q - 1) % cN s b+1):=by omega
 have e1:q / cN s b=(q - 1) / cN s b:=by
  conv=>lhs;rw[e]
  have e0:((q - 1) % cN s b+1) / cN s b=0:=BS (by omega);rw[zyj hc,e0];rfl
 have e2:q % cN s b=(q - 1) % cN s b+1:=by
  conv=>lhs;rw[e]
  rw[zyi,Ai (by omega)]
 rw[e1,e2,ht]at hz;rw[hz];simp
theorem Odo.last {s:Sc}{bs:IU Bd}{k q:Nat}(h:Odo s bs k 0 q):k+1=(zg s bs).length:=by
 have h2:=h.lt;have h1:=h.one;have h3:=h.num;have ht:=j0 s bs bs.length 0 (by omega);rw[Em,cP]at h2 ht;simp only[F2,IU.length_nil,IU.drop_zero]at h2 ht h3;have:q=1:=by omega
 rw[this]at h3;omega
end Go.Fo
open Go.Fo renaming Odo->F7
namespace Go.Fo
open Go Go.Sx Go.Proofs
section
variable {G:Nat->IQ (IU D)}
theorem Jq (c:Int):IK Tryz.prog G 311 [.int .i64 c] (· = [.bool (c==0)]):=by
 refine zq Tryz.func311 ⟨_,rfl⟩ ?_;apply @z7 _ ([IL (c==0)]=[IL (c==0)])
 ·kernel_rfl
 rfl
theorem Jp (c:Int):IK Tryz.prog G 312 [.int .i64 c] (· = [.bool (c != 0)]):=by
 refine zq Tryz.func312 ⟨_,rfl⟩ ?_;apply @z7 _ ([IL (c != 0)]=[IL (c != 0)])
 ·kernel_rfl
 rfl
theorem Jo (c:Int):IK Tryz.prog G 313 [.int .i64 c] (· = [.bool (decide (c<0))]):=by
 refine zq Tryz.func313 ⟨_,rfl⟩ ?_;apply @z7 _ ([IL (decide (c<0))]=[IL (decide (c<0))])
 ·kernel_rfl
 rfl
theorem Jn (c:Int):IK Tryz.prog G 314 [.int .i64 c] (· = [.bool (decide (c<=0))]):=by
 refine zq Tryz.func314 ⟨_,rfl⟩ ?_;apply @z7 _ ([IL (decide (c<=0))]=[IL (decide (c<=0))])
 ·kernel_rfl
 rfl
theorem Jm (c:Int):IK Tryz.prog G 315 [.int .i64 c] (· = [.bool (decide (c>0))]):=by
 refine zq Tryz.func315 ⟨_,rfl⟩ ?_;apply @z7 _ ([IL (decide (c>0))]=[IL (decide (c>0))])
 ·kernel_rfl
 rfl
theorem Jl (c:Int):IK Tryz.prog G 316 [.int .i64 c] (· = [.bool (decide (c>=0))]):=by
 refine zq Tryz.func316 ⟨_,rfl⟩ ?_;apply @z7 _ ([IL (decide (c>=0))]=[IL (decide (c>=0))])
 ·kernel_rfl
 rfl
theorem Jk (s:Sc) (w:IU Pl) (a b:Int) (h0:0<=a) (h1:a<w.length):IK Tryz.prog G 317 [io s w,.int .i64 a,.int .i64 b] (· = [.bool ((xk w a).slot==b)]):=by
 unfold io;refine zq Tryz.func317 ⟨_,rfl⟩ ?_;apply @z7 _ ((0<=a/\(IT H6 w)[IJ a]? = some (zr [HX .i64,HX .i64] (IT H6 w) (IJ a)))/\[IL (Hf (IB (z1 (IT H6 w) (IJ a) 0) default)==b)]=[IL (Pl.slot (xk w a)==b)])
 ·kernel_rfl
 obtain⟨z,hz,_⟩:=zw (l:=w) (x:=a.toNat) (by omega);have ei (n:Int):Hf (IB (some (IP .i64 n)) default)=n:=rfl;have e:xk w a=z:=by unfold xk;rw[hz];rfl
 rw[e,vh hz,xZ hz,ei];exact⟨⟨h0,vg hz⟩,rfl⟩
theorem Jj (s:Sc) (w:IU Pl) (a b:Int) (h0:0<=a) (h1:a<w.length):IK Tryz.prog G 318 [io s w,.int .i64 a,.int .i64 b] (· = [.bool ((xk w a).room==b)]):=by
 unfold io;refine zq Tryz.func318 ⟨_,rfl⟩ ?_;apply @z7 _ ((0<=a/\(IT H6 w)[IJ a]? = some (zr [HX .i64,HX .i64] (IT H6 w) (IJ a)))/\[IL (Hf (IB (z1 (IT H6 w) (IJ a) (0+1)) default)==b)]=[IL (Pl.room (xk w a)==b)])
 ·kernel_rfl
 obtain⟨z,hz,_⟩:=zw (l:=w) (x:=a.toNat) (by omega);have ei (n:Int):Hf (IB (some (IP .i64 n)) default)=n:=rfl;have e:xk w a=z:=by unfold xk;rw[hz];rfl
 rw[e,vh hz,xY hz,ei];exact⟨⟨h0,vg hz⟩,rfl⟩
theorem Ji (s:Sc) (w:IU Pl) (a b:Int) (hs:s.Fits):IK Tryz.prog G 319 [io s w,.int .i64 a,.int .i64 b] (· = [.bool (yv s.lessons (·.who) b a)]):=by
 have hh:=J6 (G:=G) s a b (λx hx=>by have:=hs.who x hx;omega);rw[zj]at hh;unfold io;refine zq Tryz.func319 ⟨_,rfl⟩ ?_;apply @z7 _ (IK Tryz.prog G 320 [Hd [.sl (IT H9 (Hk s)),.sl (IT H8 (Hg s)),.sl (IT Hy (Hi s)),.sl (IT Hx (Hh s)),.sl (IT H7 (Hn s))],.int .i64 a,.int .i64 b] λ(rs:IU D)=>∃(b_1:Bool),rs=[IL b_1]/\[IL b_1]=[IL (yv (Hn s) (λ(x:Le)=>Ay x) b a)])
 ·kernel_rfl
 exact hh.use ⟨_,rfl,rfl⟩
theorem Jh (s:Sc) (w:IU Pl) (a b:Int) (hs:s.Fits):IK Tryz.prog G 321 [io s w,.int .i64 a,.int .i64 b] (· = [.bool (yv s.lessons (·.groups) b a)]):=by
 have hh:=J7 (G:=G) s a b (λx hx=>by have:=hs.grs x hx;omega);rw[zj]at hh;unfold io;refine zq Tryz.func321 ⟨_,rfl⟩ ?_;apply @z7 _ (IK Tryz.prog G 322 [Hd [.sl (IT H9 (Hk s)),.sl (IT H8 (Hg s)),.sl (IT Hy (Hi s)),.sl (IT Hx (Hh s)),.sl (IT H7 (Hn s))],.int .i64 a,.int .i64 b] λ(rs:IU D)=>∃(b_1:Bool),rs=[IL b_1]/\[IL b_1]=[IL (yv (Hn s) (λ(x:Le)=>BB x) b a)])
 ·kernel_rfl
 exact hh.use ⟨_,rfl,rfl⟩
theorem Jg (s:Sc) (w:IU Pl) (a b:Int) (hs:s.Fits):IK Tryz.prog G 323 [io s w,.int .i64 a,.int .i64 b] (· = [.bool (yv s.people (·.away) a b)]):=by
 have hh:=J8 (G:=G) s a b (λx hx=>by have:=hs.away x hx;omega);rw[zj]at hh;unfold io;refine zq Tryz.func323 ⟨_,rfl⟩ ?_;apply @z7 _ (IK Tryz.prog G 324 [Hd [.sl (IT H9 (Hk s)),.sl (IT H8 (Hg s)),.sl (IT Hy (Hi s)),.sl (IT Hx (Hh s)),.sl (IT H7 (Hn s))],.int .i64 a,.int .i64 b] λ(rs:IU D)=>∃(b_1:Bool),rs=[IL b_1]/\[IL b_1]=[IL (yv (Hi s) (λ(x:Pe)=>Dx x) a b)])
 ·kernel_rfl
 exact hh.use ⟨_,rfl,rfl⟩
theorem Jf (s:Sc) (w:IU Pl) (a b:Int) (hs:s.Fits):IK Tryz.prog G 325 [io s w,.int .i64 a,.int .i64 b] (· = [.bool (yv s.rooms (·.shut) a b)]):=by
 have hh:=J9 (G:=G) s a b (λx hx=>by have:=hs.shut x hx;omega);rw[zj]at hh;unfold io;refine zq Tryz.func325 ⟨_,rfl⟩ ?_;apply @z7 _ (IK Tryz.prog G 326 [Hd [.sl (IT H9 (Hk s)),.sl (IT H8 (Hg s)),.sl (IT Hy (Hi s)),.sl (IT Hx (Hh s)),.sl (IT H7 (Hn s))],.int .i64 a,.int .i64 b] λ(rs:IU D)=>∃(b_1:Bool),rs=[IL b_1]/\[IL b_1]=[IL (yv (Hg s) (λ(x:Rm)=>A9 x) a b)])
 ·kernel_rfl
 exact hh.use ⟨_,rfl,rfl⟩
end
end Go.Fo
namespace Go.Fo
open Go Go.Sx
theorem rn (l:IU Int) (i:Nat) (v:Int):wS (l.map intD) i 0 [.int .i64 v]=(l.set i v).map intD:=by
 unfold wS;refine DO λj=>?_;rw[zzC,G5,G5,E4];by_cases e:i=j
 ·subst e;rcases G4 i l.length with h|h
  ·simp[h,setC,intD]
  ·rw[Gt h];simp[Nat.not_lt.2 h]
 ·rw[IE e];cases l[j]? <;> simp[e]
theorem Rb {t r:IU Int}{d:Int}{x:Nat}(h:t.length=x):(t++d::r)[x]? = some d:=by subst h;simp
theorem cO {t r:IU Int}{d v:Int}{x:Nat}(h:t.length=x):(t++d::r).set x v=t++v::r:=by subst h;simp
theorem ia {s:Sc}{bs:IU Bd}{k x q:Nat}(h:F7 s bs k x q):(w9 s bs x q).length=bs.length:=by have h1:=h.lt;have h2:=h.one;have h3:=h.le;obtain⟨t,ht,hm⟩:=zw (l:=zg s (bs.take x)) (x:=q - 1) (by omega);have:=o8 s bs x h3 t hm;unfold w9;rw[ht];simp;omega
theorem cM {s:Sc}{bs:IU Bd}{x:Nat}{b:Bd}(h:bs[x]? = some b):(zM s bs)[x]? = some ((cN s b:Nat):Int):=by unfold zM;rw[G5,h];rfl
theorem Z1 {s:Sc}{bs:IU Bd}{k x q:Nat}(hpos:∀b∈bs,0<cN s b) (hsz:∀b∈bs,cN s b<1099511627776) (h:F7 s bs k (x+1) q):∃d c:Nat,d<c/\c<1099511627776/\(w9 s bs (x+1) q)[x]? = some (d:Int)/\(zM s bs)[x]? = some (c:Int)/\x<bs.length/\(d+1=c->F7 s bs k x (q / c)/\(w9 s bs (x+1) q).set x 0=w9 s bs x (q / c))/\(d+1≠c->k+1<(zg s bs).length/\(w9 s bs (x+1) q).set x ((d+1:Nat):Int)=xz s bs (k+1)):=by
 obtain⟨b,t,hb,ht,hl,ho⟩:=h.split hpos;have hm:=GS hb;refine⟨(q - 1) % cN s b,cN s b,By _ (hpos b hm),hsz b hm,?_,cM hb,by have:=h.le;omega,λhd=>?_,λhd=>?_⟩
 ·rw[ho];exact Rb hl
 ·obtain⟨h1,h2⟩:=h.carry hpos hb ht hd;refine⟨h1,?_⟩;rw[ho,cO hl,h2]
 ·have hz:=h.step hpos hb ht hd;refine⟨?_,?_⟩
  ·rcases G4 (k+1) (zg s bs).length with h' |h'
   ·exact h'
   ·rw[Gt h']at hz;cases hz
  ·unfold xz;rw[hz,ho,cO hl];rfl
theorem lh {s:Sc}{bs:IU Bd}{k:Nat}(h:k<(zg s bs).length):(xz s bs k).length=bs.length/\(zg s bs)[k]? = some (xz s bs k):=by obtain⟨t,ht,hm⟩:=zw (l:=zg s bs) h;unfold xz;rw[ht];exact⟨u9 hm,rfl⟩
theorem tj {s:Sc}{bs:IU Bd}:(zM s bs).contains 0=true↔ ∃b∈bs,cN s b=0:=by
 unfold zM;rw[IU.contains_iff_mem,Gd];constructor
 ·rintro⟨b,hb,h⟩;refine⟨b,hb,?_⟩;unfold zU at h;unfold cN;omega
 ·rintro⟨b,hb,h⟩;refine⟨b,hb,?_⟩;unfold cN at h;unfold zU;omega
theorem Z2 (n:Nat):G8 n (IP .i64 0)=(G8 n (0:Int)).map intD:=by rw[Cg];rfl
theorem iZ {s:Sc}{bs:IU Bd}(hpos:∀b∈bs,0<cN s b):0<(zg s bs).length:=by
 have:=oo hpos bs.length 0 0 (by omega);rcases C4 (zg s bs).length with h|h
 ·rw[Df h,Em,cP]at this;cases this
 ·exact h
def kw (c:Nat):Sc:=⟨[],[],G8 c default,[],[]⟩
def bdP:Bd:=⟨[],4⟩
theorem oh (c:Nat):cN (kw c) bdP=c:=by show((G8 c (default:Pe)).map (·.name)).length=c;simp
def mr (n:Nat):IU Bd:=G8 n bdP
def rl (R:Nat) (d:Int):Pl:=⟨((d.toNat / R:Nat):Int),((d.toNat % R:Nat):Int)⟩
theorem NS (c n:Nat):zg (kw c) (mr (n+1))=(zg (kw c) (mr n)).flatMap (pl c):=by unfold zg mr;rw[IU.replicate_succ',IU.foldl_append,CY,IU.foldl_nil];have:(zf (kw c) bdP.sort).length=c:=oh c;rw[this]
theorem tP (S R:Nat):∀n,yR (t8 S R) n=(zg (kw (S*R)) (mr n)).map λt=>t.map (rl R)
 |0=>rfl
 |n+1=>by rw[yR,tP S R n,NS,IU.flatMap_map,IU.map_flatMap];congr 1;funext t;unfold Xr t8 pl;rw[CT,CT];congr 1;funext d;simp[rl]
theorem Z3 {c:Nat}(hc:0<c) (n:Nat):∀b∈mr n,0<cN (kw c) b:=by intro b hb;have:=Bg hb;rw[this,oh];exact hc
theorem qz (n:Nat):(mr n).length=n:=by simp[mr]
theorem cL (R:Nat):rl R 0=⟨0,0⟩:=by simp[rl]
theorem Z4 (R n:Nat):(G8 n (0:Int)).map (rl R)=G8 n ⟨0,0⟩:=by rw[Cg,cL]
theorem cK (l:IU Pl) (i:Nat) (z:Pl) (v:Int) (h:l[i]? = some z):wS (l.map H6) i 1 [.int .i64 v]=(l.set i ⟨z.slot,v⟩).map H6:=by
 unfold wS;refine DO λj=>?_;rw[zzC,G5,G5,E4];by_cases e:i=j
 ·subst e;have hlt:i<l.length:=by
   rcases G4 i l.length with h' |h'
   ·exact h'
   ·rw[Gt h']at h;cases h
  rw[h];simp[hlt,setC,H6,putL]
 ·simp[e]
theorem cJ (l:IU Pl) (i:Nat) (z:Pl) (v:Int) (h:l[i]? = some z):wS (l.map H6) i 0 [.int .i64 v]=(l.set i ⟨v,z.room⟩).map H6:=by
 unfold wS;refine DO λj=>?_;rw[zzC,G5,G5,E4];by_cases e:i=j
 ·subst e;have hlt:i<l.length:=by
   rcases G4 i l.length with h' |h'
   ·exact h'
   ·rw[Gt h']at h;cases h
  rw[h];simp[hlt,setC,H6,putL]
 ·simp[e]
theorem Mm {S R L k x q:Nat}(hS:0<S) (hR:0<R) (hb:S*R<1099511627776) (h:F7 (kw (S*R)) (mr L) k (x+1) q):∃a b:Nat,a<S/\b<R/\x<L/\((w9 (kw (S*R)) (mr L) (x+1) q).map (rl R))[x]? = some ⟨(a:Int),(b:Int)⟩/\(b+1<R->k+1<(yR (t8 S R) L).length/\(((w9 (kw (S*R)) (mr L) (x+1) q).map (rl R)).set x ⟨(a:Int),((b+1:Nat):Int)⟩)=(xz (kw (S*R)) (mr L) (k+1)).map (rl R))/\(b+1=R->a+1<S->k+1<(yR (t8 S R) L).length/\(((w9 (kw (S*R)) (mr L) (x+1) q).map (rl R)).set x ⟨((a+1:Nat):Int),0⟩)=(xz (kw (S*R)) (mr L) (k+1)).map (rl R))/\(b+1=R->a+1=S->∃q',F7 (kw (S*R)) (mr L) k x q'/\(((w9 (kw (S*R)) (mr L) (x+1) q).map (rl R)).set x ⟨0,0⟩)=(w9 (kw (S*R)) (mr L) x q').map (rl R)):=by
 have hc:0<S*R:=zz0 hS hR;have hpos:=Z3 hc L;obtain⟨d,c,h1,h2,hg,hs,hx,hcar,hst⟩:=Z1 hpos (λb hb'=>by have:=Bg hb';rw[this,oh];exact hb) h;have hcc:c=S*R:=by
  have hb':(mr L)[x]? = some bdP:=by unfold mr;rw[Ar,Hv (by rw[qz]at hx;exact hx)]
  rw[cM hb',oh]at hs;simp at hs;omega
 rw[qz]at hx;have hlen:(yR (t8 S R) L).length=(zg (kw (S*R)) (mr L)).length:=by rw[tP,H4]
 have hda:d / R<S:=by rw[hcc]at h1;exact Nat.div_lt_of_lt_mul (by rw[Cy];exact h1)
 have hdb:d % R<R:=By _ hR;have hdm:=BQ d R;refine⟨d / R,d % R,hda,hdb,hx,?_,λh3=>?_,λh3 h4=>?_,λh3 h4=>?_⟩
 ·rw[G5,hg];simp[rl]
 ·have hne:d+1≠c:=λe=>by
   rw[hcc]at e;have h5:R*(d / R)+(d % R+1)=R*S:=by rw[Cy R S];omega
   have h6:(R*(d / R)+(d % R+1)) % R=(d % R+1) % R:=zyi _ _ _;rw[h5,zxC,Ai h3]at h6;omega
  obtain⟨o1,o2⟩:=hst hne;refine⟨by rw[hlen];exact o1,?_⟩;rw[←o2,zyM];congr 1;have e1:(d+1) / R=d / R:=by rw[show d+1=R*(d / R)+(d % R+1) by omega,zyj hR,BS h3];rfl
  have e2:(d+1) % R=d % R+1:=by rw[show d+1=R*(d / R)+(d % R+1) by omega,zyi,Ai h3]
  simp only[rl,HF,e1,e2]
 ·have hne:d+1≠c:=λe=>by
   rw[hcc]at e;have h5:R*(d / R+1)=R*S:=by rw[zyC,Cy R S];omega
   have:=Nat.eq_of_mul_eq_mul_left hR h5;omega
  obtain⟨o1,o2⟩:=hst hne;refine⟨by rw[hlen];exact o1,?_⟩;rw[←o2,zyM];congr 1;have e0:d+1=R*(d / R+1):=by rw[zyC];omega
  have e1:(d+1) / R=d / R+1:=by rw[e0,Nat.mul_div_cancel_left _ hR]
  have e2:(d+1) % R=0:=by rw[e0,zxC]
  simp only[rl,HF,e1,e2];rfl
 ·have he:d+1=c:=by
   rw[hcc];have h5:R*(d / R+1)=R*S:=by rw[h4]
   rw[zyC,Cy R S]at h5;omega
  obtain⟨o1,o2⟩:=hcar he;refine⟨_,o1,?_⟩;rw[←o2,zyM,cL]
theorem Ol {S R L:Nat}(hS:0<S) (hR:0<R):(xz (kw (S*R)) (mr L) 0).map (rl R)=G8 L ⟨0,0⟩:=by rw[ol (Z3 (zz0 hS hR) L),Z4,qz]
theorem Ml {S R L k:Nat}(h:k<(yR (t8 S R) L).length):(yR (t8 S R) L)[k]? = some ((xz (kw (S*R)) (mr L) k).map (rl R))/\((xz (kw (S*R)) (mr L) k).map (rl R)).length=L:=by
 have hlen:(yR (t8 S R) L).length=(zg (kw (S*R)) (mr L)).length:=by rw[tP,H4]
 obtain⟨h1,h2⟩:=lh (s:=kw (S*R)) (bs:=mr L) (k:=k) (by omega);rw[tP,G5,h2];exact⟨rfl,by rw[H4,h1,qz]⟩
theorem NR {S R L:Nat}(hS:0<S) (hR:0<R):0<(yR (t8 S R) L).length:=by rw[tP,H4];exact iZ (Z3 (zz0 hS hR) L)
end Go.Fo
namespace Go.Fo
open Go Go.Sx Go.Proofs
section
variable {G:Nat->IQ (IU D)}
def M2 (s:Sc) (w:IU Pl):IU AV:=[.d (.sl (s.slots.map H9)),.d (.sl (s.rooms.map H8)),.d (.sl (s.people.map Hy)),.d (.sl (s.groups.map Hx)),.d (.sl (s.lessons.map H7)),.d (.sl (w.map H6))]
def c87:He:=unScope (z8 (z6 Tryz.f87) 0)
def tm87:IU AV:=[.any,.any,.any,.ptr 0 0,.ptr 1 0,.ptr 2 0,.any,.any,.any,.any,.ptr 3 0,.ptr 4 0,.any,.any,.any,.any,.any,.any,.any,.any,.any,.any,.any,.any,.any,.any,.any,.any,.any,.any,.any,.any,.any,.any,.any,.any,.any,.any,.any,.any,.any,.any,.any,.any,.any,.any,.any,.any,.any,.any,.any,.any,.any,.any,.any,.any,.any,.any,.any,.any,.any,.any,.any,.any,.any,.any,.any,.any,.any,.any,.any,.any,.any,.any,.any,.any,.any,.any,.any,.any,.any,.any,.any,.any,.any,.any,.any,.any,.any,.any,.any,.any,.any,.any,.any,.any,.any,.any,.any,.any,.any,.any,.any,.any,.any,.any,.any,.any,.any,.any,.any,.any,.any,.any,.any,.any,.any,.any,.any,.any,.any,.any,.any,.any,.any,.any,.any,.any,.any,.any,.any,.any,.any,.any,.any,.any,.any,.any,.any]
def hH (s:Sc) (w:IU Pl) (env:IU Ev) (f:Fm) (n a:Int):IU Box:=[.cells 166 (M2 s w),.cells 146 [.d (.sl (env.map HO))],.cells 85 (dP f),.cells 3 [.d (.int .i64 n)],.cells 3 [.d (.int .i64 a)],.loop tm87 (zY c87) (zk c87) (zX c87) none .ready]
theorem h86 (s:Sc) (bs:IU Bd) (hs:s.Fits) (hb:bs.length<1099511627776):PFnA Tryz.prog G 86 [s.d,.sl (bs.map ID)] (· = .clo 135 [] [.iptr [wz (zM s bs)],.iptr [.sl (bs.map ID)]]):=by
 have h134:=h134 (G:=G) s bs hs hb;rw[zj]at *;refine Bv (fn:=Tryz.f86) (code:=z6 Tryz.f86) mixed L0 Tryz.func86 (by kernel_rfl) tw ?_;apply @z7 _ (IK Tryz.prog G 134 [Hd [.sl (IT H9 (Hk s)),.sl (IT H8 (Hg s)),.sl (IT Hy (Hi s)),.sl (IT Hx (Hh s)),.sl (IT H7 (Hn s))],.sl (IT ID bs)] λ(rs:IU D)=>∃(l:IU D),rs=[II l]/\Gg 135 [] [GO [.sl l],.iptr [.sl (IT ID bs)]]=Gg 135 [] [GO [.sl (IT intD (zM s bs))],.iptr [.sl (IT ID bs)]])
 ·kernel_rfl
 exact h134.use ⟨_,rfl,rfl⟩
def Oj (a:Fm):D:=zr [HX .i64,HI,HX .i64,HK,HK,HK] (IT HV (Hz a)) (IJ 0)
def eq (a:Sc) (b:IU Pl):Box:=Hl 166 [.d (.sl (IT H9 (Hk a))),.d (.sl (IT H8 (Hg a))),.d (.sl (IT Hy (Hi a))),.d (.sl (IT Hx (Hh a))),.d (.sl (IT H7 (Hn a))),.d (.sl (IT H6 b))]
def ep (a:IU Ev):Box:=Hl 146 [.d (.sl (IT HO a))]
def eo (a:Fm):Box:=Hl 85 [.d (.int .i64 (Hj a)),.d (.str (HE a)),.d (.int .i64 (HB a)),.d (.sl (IT Hq (HM a))),.d (.sl (IT ID (HN a))),.d (.sl (IT HV (Hz a)))]
def Oi (a:Int):Box:=Hl 3 [.d (.int .i64 (Hr .i64 (a+1)))]
def yHq3:IU Box:=[Gz [IM,.any,.any,.ptr 0 0,.ptr 1 0,.ptr 2 0,.any,.any,.any,.any,.ptr 3 0,.ptr 4 0,.any,.any,.any,.any,.any,.any,.any,.any,.any,.any,.any,.any,.any,.any,.any,.any,.any,.any,.any,.any,.any,.any,.any,.any,.any,.any,.any,.any,.any,.any,.any,.any,.any,.any,.any,.any,.any,.any,.any,.any,.any,.any,.any,.any,.any,.any,.any,.any,.any,.any,.any,.any,.any,.any,.any,.any,.any,.any,.any,.any,.any,.any,.any,.any,.any,.any,.any,.any,.any,.any,.any,.any,.any,.any,.any,.any,.any,.any,.any,.any,.any,.any,.any,.any,.any,.any,.any,.any,.any,.any,.any,.any,.any,.any,.any,.any,.any,.any,.any,.any,.any,.any,.any,.any,.any,.any,.any,.any,.any,.any,.any,.any,.any,.any,.any,.any,.any,.any,.any,.any,.any,.any,.any,.any,.any,.any, .any] (zY c87) (zk c87) (zX c87) none GY]
def Oh (a:Int):IU Box:=Oi a::yHq3
def Og (a:Sc) (b:IU Pl) (c:IU Ev) (d:Fm) (e:Bool) (f:Int) (g:Int):IU Box:=eq a b::ep c::eo d::Hl 3 [.d (.int .i64 (if e=true then f+1 else f))]::Hl 3 [.d (.int .i64 (g+1))]::yHq3
theorem Je (s:Sc) (w:IU Pl) (env:IU Ev) (f x:Fm) (t:IU Int) (n a:Int) (r:Bool) (hl:env.length<1099511627776) (hb:f.bs.length<1099511627776) (ht:f.bs.length<=t.length) (hx:f.l[0]? = some x) (h0:0<=n) (h1:n<1099511627776) (h2:0<=a) (h3:a<1099511627776) (hrec:IK Tryz.prog G 87 [io s w,.sl ((env++yo f.bs t).map HO),x.d] (· = [.bool r])):Gi Tryz.prog G 5 [.d (wz t)] (hH s w env f n a) (λrs H'=>rs=[.bool true]/\H'=hH s w env f (if r then n+1 else n) (a+1)):=by
 unfold io at hrec;have h88:=h88 (G:=G) env f.bs t hl hb ht;unfold wz at *;refine DW (tm:=tm87) (ps:=zY c87) (asn:=zk c87) (bd:=zX c87) mixed L0 rfl (by kernel_rfl) rfl rfl ⟨_,_,rfl,rfl⟩ (λ_=>ns (by kernel_rfl)) (λ_=>ns (by kernel_rfl)) ?_;apply @z7 _ (((0:Int)<=0/\(IT HV (Hz f))[IJ 0]? = some (Oj f))/\IK Tryz.prog G 88 [II (IT HO env),.sl (IT ID (HN f)),.sl (IT intD t)] λ(rs:IU D)=>∃(l:IU D),rs=[II l]/\IK Tryz.prog G 87 [Hd [.sl (IT H9 (Hk s)),.sl (IT H8 (Hg s)),.sl (IT Hy (Hi s)),.sl (IT Hx (Hh s)),.sl (IT H7 (Hn s)),.sl (IT H6 w)],.sl l,Oj f] λ(rs:IU D)=>∃(b:Bool),rs=[IL b]/\(b=true->[IL true]=[IL true]/\eq s w::ep env::eo f::Oi n::Oh a=Og s w env f r n a)/\(b=false->[IL true]=[IL true]/\eq s w::ep env::eo f::Hl 3 [.d (.int .i64 n)]::Oh a=Og s w env f r n a))
 ·kernel_rfl
 delta Oj eq ep eo Oi Oh yHq3 Og;refine⟨⟨by omega,by rw[zyf,wZ hx];simp[hx]⟩,h88.use ⟨_,rfl,?_⟩⟩;rw[zyf,wZ hx];refine hrec.use ⟨_,rfl,λh=>?_,λh=>?_⟩
 ·subst h;rw[zx (by omega) (by omega),zx (by omega) (by omega)];exact⟨rfl,rfl⟩
 ·subst h;rw[zx (by omega) (by omega)];exact⟨rfl,rfl⟩
def VC (a:Sc) (b:IU Pl) (c:IU Ev) (d:Fm) (e:Nat->Int) (f:Nat) (g:IU Int):IU Box:=[eq a b,ep c,eo d,.cells 3 [.d (.int .i64 (e f))],.cells 3 [.d (.int .i64 (f:Int))],.loop [IM,.any,.any,.ptr 0 0,.ptr 1 0,.ptr 2 0,.any,.any,.any,.any,.ptr 3 0,.ptr 4 0,.any,.any,.any,.any,.any,.any,.any,.any,.any,.any,.any,.any,.any,.any,.any,.any,.any,.any,.any,.any,.any,.any,.any,.any,.any,.any,.any,.any,.any,.any,.any,.any,.any,.any,.any,.any,.any,.any,.any,.any,.any,.any,.any,.any,.any,.any,.any,.any,.any,.any,.any,.any,.any,.any,.any,.any,.any,.any,.any,.any,.any,.any,.any,.any,.any,.any,.any,.any,.any,.any,.any,.any,.any,.any,.any,.any,.any,.any,.any,.any,.any,.any,.any,.any,.any,.any,.any,.any,.any,.any,.any,.any,.any,.any,.any,.any, .any,.any,.any,.any,.any,.any,.any,.any,.any,.any,.any,.any,.any,.any,.any,.any,.any,.any,.any,.any,.any,.any,.any,.any,.any,.any,.any,.any,.any,.any,.any] (zY c87) (zk c87) (zX c87) none GY,.arr 1 (IT intD g)]
def VB (a:Sc) (b:IU Pl) (c:IU Ev) (d:Fm) (e:Nat->Int) (f:Nat) (g:IU Int):Prop:=VC a b c d e f g=VC a b c d e f g
theorem Jd (s:Sc) (w:IU Pl) (env:IU Ev) (f:Fm) (N:Nat->Int) (k:Nat) (t:IU Int) (ht:t.length<1099511627776):HY Tryz.prog G 35 [.msl 6] (hH s w env f (N k) ((k:Nat):Int)++[.arr 1 (t.map intD)]) (λrs H'=>rs=[wz t]/\H'=hH s w env f (N k) ((k:Nat):Int)++[.arr 1 (t.map intD)]):=by
 refine zB Tryz.func35 rfl ⟨_,_,rfl,rfl⟩ ?_;apply @z7 _ ((false=true->[II []]=[II (IT intD t)]/\VB s w env f N k t)/\(false=false->FA [] (IT intD t) (nat_lit 1) (nat_lit 8)/\[II (G6 ([]:IU D)++IT intD t)]=[II (IT intD t)]/\VB s w env f N k t))
 ·kernel_rfl
 delta VB VC eq Oj ep eo Oi Oh yHq3 Og;refine⟨λh=>Hu h (by decide),λ_=>⟨⟨?_,by simp;omega⟩,rfl,rfl⟩⟩;simpa using u0 t
def lg (a:Sc) (b:IU Pl) (c:IU Ev) (d:Fm) (e:Nat->Int) (f:IU Bd):IU Box:=eq a b::ep c::eo d::Hl 3 [.d (.int .i64 (e (IR (zg a f))))]::Hl 3 [.d (.int .i64 (↑(IR (zg a f)):Int))]::yHq3
def tO (a:IU Bd):Int:=(↑(IR (IT ID a)):Int)
def lf (a:Sc) (b:IU Bd):Prop:=GO [.sl (IT intD (zM a b))]=GO [.sl (IT intD (zM a b))]
def ld (a:IU Bd):Prop:=GO [.sl (IT ID a)]=GO [.sl (IT ID a)]
def Z5 (a:Sc) (b:IU Bd):Prop:=G2 5=G2 5/\lf a b/\ld b/\F1 6=F1 6/\IN
def iY (a:Sc) (b:IU Pl):Prop:=IT H9 (Hk a)=IT H9 (Hk a)/\IT H8 (Hg a)=IT H8 (Hg a)/\IT Hy (Hi a)=IT Hy (Hi a)/\IT Hx (Hh a)=IT Hx (Hh a)/\IT H7 (Hn a)=IT H7 (Hn a)/\IT H6 b=IT H6 b/\IN
def iX (a:IU Ev):Prop:=IT HO a=IT HO a/\IN
def lc (a:Fm):Prop:=Hj a=Hj a/\HE a=HE a/\HB a=HB a/\IT Hq (HM a)=IT Hq (HM a)/\IT ID (HN a)=IT ID (HN a)/\IT HV (Hz a)=IT HV (Hz a)/\IN
def h135Hq1:IU AV:=[IM,.any,.any,.ptr 0 0,.ptr 1 0,.ptr 2 0,.any,.any,.any,.any,.ptr 3 0,.ptr 4 0,.any,.any,.any,.any,.any,.any,.any,.any,.any,.any,.any,.any,.any,.any,.any,.any,.any,.any,.any,.any,.any,.any,.any,.any,.any,.any,.any,.any,.any,.any,.any,.any,.any,.any,.any,.any,.any,.any,.any,.any,.any,.any,.any,.any,.any,.any,.any,.any,.any,.any,.any,.any,.any,.any,.any,.any,.any,.any,.any,.any,.any,.any,.any,.any,.any,.any,.any,.any,.any,.any,.any,.any,.any,.any,.any,.any,.any,.any,.any,.any,.any,.any,.any,.any,.any,.any,.any,.any,.any,.any,.any,.any,.any,.any,.any,.any,.any,.any,.any,.any,.any,.any,.any,.any,.any,.any,.any,.any,.any,.any,.any,.any,.any,.any,.any,.any,.any,.any,.any,.any,.any,.any,.any,.any,.any,.any,.any]
def h135Hq6:Box:=Gz h135Hq1 (zY c87) (zk c87) (zX c87) none GY
def h135Hq19:Prop:=h135Hq6=h135Hq6
def pc (a:IU D):IU AV:=[IH (.sl a)]
def ej (a:IU D) (b:IU D) (c:IU D):IU AV:=IH (.sl a)::IH (.sl b)::pc c
def h135Hq11 (a:IU D) (b:IU D) (c:IU D) (d:IU D) (e:IU D) (f:IU D):Box:=Hl 166 (IH (.sl a)::IH (.sl b)::IH (.sl c)::ej d e f)
def eh (a:Int) (b:IU UInt8) (c:Int) (d:IU D) (e:IU D) (f:IU D):Box:=Hl 85 (IH (.int .i64 a)::IH (.str b)::IH (.int .i64 c)::ej d e f)
def pb (a:Int):Box:=Hl 3 [.d (.int .i64 a)]
def la (a:IQ He) (b:HJ):Box:=Gz h135Hq1 (zY c87) (zk c87) (zX c87) a b
def lZ (a:IU D) (b:Int) (c:IU UInt8) (d:Int) (e:IU D) (f:IU D) (g:IU D) (h:Int) (i:Int) (j:IQ He) (k:HJ):IU Box:=[Hl 146 (pc a),eh b c d e f g,pb h,pb i,la j k]
def yN (a:Nat×Nat):Int:=(↑(Hw a):Int) - 1
def up (a:Sc) (b:IU Bd) (c:Nat×Nat):IU D:=IT intD (w9 a b (Hw c) (HL c))
def lY (a:Nat×Nat):Prop:=decide (yN a>=0)=true
def lX (a:Nat×Nat) (b:Sc) (c:IU Bd):Prop:=IJ (yN a)<IR (up b c a)
def pa (a:Nat×Nat) (b:Sc) (c:IU Bd):Prop:=0<=yN a/\lX a b c
def Z6 (a:Sc) (b:IU Bd) (c:Nat×Nat):Prop:=z1 (up a b c) (IJ (yN c)) 0=some (IP .i64 (Hf (IB (z1 (up a b c) (IJ (yN c)) 0) default)))/\IN
def Z7 (a:Sc) (b:IU Bd) (c:Nat×Nat):Int:=Hf (IB (z1 (IT intD (zM a b)) (IJ (yN c)) 0) default)
def Z8 (a:Nat×Nat) (b:Sc) (c:IU Bd):Bool:=bif decide (yN a>=0)then Hr .i64 (Hf (IB (z1 (up b c a) (IJ (yN a)) 0) default)+1)==Z7 b c a else false
theorem LY (s:Sc) (w:IU Pl) (env:IU Ev) (f:Fm) (N:Nat->Int) (bs:IU Bd) (hb:bs.length<=1000000000) (hsz:∀b∈bs,cN s b<1099511627776) (hY:∀(k:Nat) (t:IU Int),(zg s bs)[k]? = some t->Gi Tryz.prog G 5 [.d (wz t)] (hH s w env f (N k) ((k:Nat):Int)) (λrs H'=>rs=[.bool true]/\H'=hH s w env f (N (k+1)) (((k+1):Nat):Int))): HY Tryz.prog G 135 [.yld 5,.iptr [wz (zM s bs)],.iptr [.sl (bs.map ID)]] (hH s w env f (N 0) 0) (λ_ H'=>H'=hH s w env f (N (zg s bs).length) (((zg s bs).length:Nat):Int)):=by
 have hcl:=λk t h=>Jd (G:=G) s w env f N k t h;unfold wz at *;refine zZ (LL [(2,xH (α:=Nat) Tryz.prog G (λk=>LL [(4,ze (α:=Nat×Nat) Tryz.prog G L0 6 (z8 (z8 (z6 Tryz.f135) 0) 0) [0,1,2,4] (λx=>F7 s bs k x.1 x.2) (λx=>x.1) (λx=>[(5,.d (.int .i64 ((x.1:Int) - 1)))]) (λ_ x=>hH s w env f (N (k+1)) (((k+1):Nat):Int)++[.arr 1 ((w9 s bs x.1 x.2).map intD)]))]) 6 (z8 (z6 Tryz.f135) 0) [0,1,2,4] (λk=>k<(zg s bs).length) (λk=>(zg s bs).length - k) (λ_=>[]) (λ_ k=>hH s w env f (N k) ((k:Nat):Int)++[.arr 1 ((xz s bs k).map intD)]))]) Tryz.func135 rfl ⟨[],_,rfl⟩ (zt (zA mixed (λ_=>zt zz))) ?_;apply @z7 _ (IK Tryz.prog G 76 [II (IT intD (zM s bs)),.int .i64 0] λ(rs:IU D)=>∃(b:Bool),rs=[IL b]/\(b=true->eq s w::ep env::eo f::Hl 3 [.d (.int .i64 (N 0))]::Hl 3 [.d (.int .i64 0)]::yHq3=lg s w env f N bs)/\(b=false->(tO bs=tO bs/\0<=tO bs/\tO bs<=1000000000/\(↑8:Int)*tO bs<=281474976710656)/\∃(x0:Nat),x0<IR (zg s bs)/\(Z5 s bs/\iY s w/\iX env/\lc f/\(N 0=N x0/\IN)/\((0:Int)=(x0:Int)/\IN)/\h135Hq19/\G8 (IJ (tO bs)) (IP .i64 0)=IT intD (xz s bs x0)/\IN)/\∀(x:Nat),x<IR (zg s bs)->HY Tryz.prog G 35 [F1 6] [eq s w,ep env,eo f,.cells 3 [.d (.int .i64 (N x))],.cells 3 [.d (.int .i64 (x:Int))],h135Hq6,.arr 1 (IT intD (xz s bs x))] λ(rs:IU D) (H':IU Box)=>∃(l:IU D),rs=[II l]/\∃(l_1:IU D)(l_2:IU D)(l_3:IU D)(l_4:IU D)(l_5:IU D)(l_6:IU D)(l_7:IU D)(n:Int)(s_1:IU UInt8)(n_1:Int)(l_8:IU D)(l_9:IU D)(l_10:IU D)(n_2:Int)(n_3:Int)(pend:IQ He)(st:HJ)(ds:IU D),H'=[h135Hq11 l_1 l_2 l_3 l_4 l_5 l_6,.cells 146 (pc l_7),eh n s_1 n_1 l_8 l_9 l_10,pb n_2,pb n_3,la pend st,.arr 1 ds]/\Gi Tryz.prog G 5 (pc l) (h135Hq11 l_1 l_2 l_3 l_4 l_5 l_6::lZ l_7 n s_1 n_1 l_8 l_9 l_10 n_2 n_3 pend st) λ(rs:IU D) (H':IU Box)=>∃(b:Bool),rs=[IL b]/\∃(l:IU D)(l_11:IU D)(l_12:IU D)(l_13:IU D)(l_14:IU D)(l_15:IU D)(l_16:IU D)(n:Int),∃ (s_2:IU UInt8),∃(n_4:Int)(l_17:IU D)(l_18:IU D)(l_19:IU D)(n_5:Int)(n_6:Int)(pend:IQ He)(st:HJ),H'=h135Hq11 l l_11 l_12 l_13 l_14 l_15::lZ l_16 n s_2 n_4 l_17 l_18 l_19 n_5 n_6 pend st/\((!b)=true->h135Hq11 l l_11 l_12 l_13 l_14 l_15::lZ l_16 n s_2 n_4 l_17 l_18 l_19 n_5 n_6 pend st=lg s w env f N bs)/\((!b)=false->∃(x0:Nat×Nat),F7 s bs x (Hw x0) (HL x0)/\((G2 5=G2 5/\lf s bs/\ld bs/\F1 6=F1 6/\Hr .i64 ((↑(IR ds):Int) - 1)=yN x0/\IN)/\(l=IT H9 (Hk s)/\l_11=IT H8 (Hg s)/\l_12=IT Hy (Hi s)/\l_13=IT Hx (Hh s)/\l_14=IT H7 (Hn s)/\l_15=IT H6 w/\IN)/\(l_16=IT HO env/\IN)/\(n=Hj f/\s_2=HE f/\n_4=HB f/\l_17=IT Hq (HM f)/\l_18=IT ID (HN f)/\l_19=IT HV (Hz f)/\IN)/\(n_5=N (x+1)/\IN)/\(n_6=(↑(x+1):Int)/\IN)/\la pend st=h135Hq6/\ds=up s bs x0/\IN)/\∀(x_1:Nat×Nat),F7 s bs x (Hw x_1) (HL x_1)->(lY x_1->pa x_1 s bs)/\(lY x_1->Z6 s bs x_1)/\(lY x_1->0<=yN x_1/\(IT intD (zM s bs))[IJ (yN x_1)]? = some (IP .i64 (Z7 s bs x_1)))/\(Z8 x_1 s bs=true->pa x_1 s bs/\lX x_1 s bs/\∃(y:Nat×Nat),F7 s bs x (Hw y) (HL y)/\Hw y<Hw x_1/\(G2 5=G2 5/\lf s bs/\ld bs/\F1 6=F1 6/\Hr .i64 (yN x_1 - 1)=yN y/\IN)/\iY s w/\iX env/\lc f/\(N (x+1)=N (x+1)/\IN)/\((↑(x+1):Int)=(↑(x+1):Int)/\IN)/\h135Hq19/\wS (up s bs x_1) (IJ (yN x_1)) 0 (G6 [IP .i64 0])=up s bs y/\IN)/\(Z8 x_1 s bs=false->(decide (yN x_1<0)=true->eq s w::ep env::eo f::Hl 3 [.d (.int .i64 (N (x+1)))]::Hl 3 [.d (.int .i64 (↑(x+1):Int))]::yHq3=lg s w env f N bs)/\(decide (yN x_1<0)=false->pa x_1 s bs/\Z6 s bs x_1/\pa x_1 s bs/\lX x_1 s bs/\∃(y:Nat),y<IR (zg s bs)/\IR (zg s bs) - y<IR (zg s bs) - x/\Z5 s bs/\iY s w/\iX env/\lc f/\(N (x+1)=N y/\IN)/\((↑(x+1):Int)=(y:Int)/\IN)/\h135Hq19/\wS (up s bs x_1) (IJ (yN x_1)) 0 (G6 [Hw (IP .i64 (Hr .i64 (Hf (IB (z1 (up s bs x_1) (IJ (yN x_1)) 0) default)+1)),IN)])=IT intD (xz s bs y)/\IN)))))
 ·kernel_rfl
 delta eq Oj ep eo Oi Oh yHq3 Og lg tO Z5 lf ld iY iX lc h135Hq19 h135Hq6 h135Hq1 h135Hq11 ej pc eh pb la lZ yN up lY pa lX Z6 Z7 Z8;refine(N6 (G:=G) (zM s bs) 0 (by rw[tl];omega)).use ⟨_,rfl,λhb0=>?_,λhb0=>?_⟩
 ·obtain⟨b,hm,hc⟩:=tj.1 hb0;rw[er hm hc];rfl
 have hpos:∀b∈bs,0<cN s b:=λb hm=>by
  rcases C4 (cN s b)with h|h
  ·rw[tj.2 ⟨b,hm,h⟩]at hb0;cases hb0
  ·exact h
 refine⟨⟨rfl,by omega,by simp;omega,by simp;omega⟩,0,iZ hpos,?_,λk hk=>?_⟩
 ·and_intros<;>first|rfl|trivial|(simp only[H4,HF];rw[ol hpos,Z2])
 obtain⟨hkl,hkg⟩:=lh hk;refine(hcl k _ (by rw[hkl];omega)).mono ?_;rintro rs H' ⟨rfl,rfl⟩;refine⟨_,rfl,_,_,_,_,_,_,_,_,_,_,_,_,_,_,_,_,_,_,rfl,(hY k _ hkg).mono ?_⟩;rintro rs H' ⟨rfl,rfl⟩;refine⟨true,rfl,_,_,_,_,_,_,_,_,_,_,_,_,_,_,_,_,_,rfl,λh=>Hu h (by decide),λ_=>⟨(bs.length,k+1),F7.start hk,?_,λy hy=>?_⟩⟩
 ·have e1:Hr .i64 (((IT intD (xz s bs k)).length:Nat) - 1:Int)=((bs.length:Nat):Int) - 1:=by rw[H4,hkl];exact zx (by omega) (by omega)
  have e2:IT intD (xz s bs k)=IT intD (w9 s bs bs.length (k+1)):=by rw[om]
  and_intros<;>first|exact e1|exact e2|rfl|trivial
 obtain⟨x1,q⟩:=y;cases x1 with
 |zero =>
  have hl:=F7.last hy;refine⟨λh=>by simp at h,λh=>by simp at h,λh=>by simp at h,λh=>by simp at h,λ_=>⟨λ_=>?_,λh=>by simp at h⟩⟩;rw[←hl]
 |succ x =>
  obtain⟨d,c,h1,h2,hg,hs,hx,hcar,hst⟩:=Z1 hpos hsz hy;have ex:((x+1:Nat):Int) - 1=(x:Int):=by omega
  have hol:=ia hy;have hll:(IT intD (w9 s bs (x+1) q)).length=bs.length:=by rw[H4,hol]
  have ei (n:Int):Hf (IB (some (IP .i64 n)) default)=n:=rfl;have hw:Hr .i64 ((d:Int)+1)=((d+1:Nat):Int):=by rw[zx (by omega) (by omega)];rfl
  have hdm:decide ((x:Int)>=0)=true:=by simp
  rw[ex,HF,yK hg,yK hs,ei,ei,hw,hll,hdm];refine⟨λ_=>⟨by omega,hx⟩,λ_=>⟨rfl,trivial⟩,λ_=>⟨by omega,xG hs⟩,λhq=>?_,λhq=>⟨λh=>Hu (G0 h) (by omega),λ_=>?_⟩⟩
  ·have e:d+1=c:=by have:(((d+1:Nat):Int)==(c:Int))=true:=hq;have:=eq_of_beq this;omega
   obtain⟨o1,o2⟩:=hcar e;refine⟨⟨by omega,hx⟩,hx,(x,q / c),o1,by omega,?_⟩;have e1:Hr .i64 ((x:Int) - 1)=(x:Int) - 1:=zx (by omega) (by omega);have e2:=(rn (w9 s bs (x+1) q) x 0).trans (congrArg _ o2);and_intros<;>first|exact e1|exact e2|rfl|trivial
  ·have e:d+1≠c:=λe=>by have:(((d+1:Nat):Int)==(c:Int))=false:=hq;rw[e]at this;simp at this
   obtain⟨o1,o2⟩:=hst e;refine⟨⟨by omega,hx⟩,⟨rfl,trivial⟩,⟨by omega,hx⟩,hx,k+1,o1,by omega,?_⟩;have e2:=(rn (w9 s bs (x+1) q) x ((d+1:Nat):Int)).trans (congrArg _ o2);and_intros<;>first|exact e2|rfl|trivial
end
def esL:IU (IU UInt8×Nat):=[([61],311),([33,61],312),([60],313),([60,61],314),([62],315),([62,61],316)]
def eaL:IU (Int×Nat):=[(3,317),(4,318),(5,319),(6,321),(7,323),(8,325)]
def akL:IU (Int×Nat):=[(1,300),(2,301),(3,302),(4,303),(5,304),(6,305)]
structure Maps.Fn (M:Maps):Prop where
 esA:(M.es.all λkv=>sameKind (.str []) kv.1&&Ft .fn kv.2)=true
 eaA:(M.ea.all λkv=>sameKind (.int .i64 0) kv.1&&Ft .fn kv.2)=true
 akA:(M.ak.all λkv=>sameKind (.int .i64 0) kv.1&&Ft .fn kv.2)=true
 esG:∀s,zT M.es (.str s)=(esL.lookup s).map .fn
 eaG:∀k,zT M.ea (.int .i64 k)=(eaL.lookup k).map .fn
 akG:∀k,zT M.ak (.int .i64 k)=(akL.lookup k).map .fn
def hP (s:Sc) (w:IU Pl) (env:IU Ev) (f:Fm):IU Box:=[.cells 166 (M2 s w),.cells 146 [.d (.sl (env.map HO))],.cells 85 (dP f)]
theorem pZ {e:En}{t:Tm}(h:(zV e t).2=0) (hk:t.kind≠1):yt e t.name=true:=by
 unfold zV at h;rw[IE hk]at h;cases hh:yt e t.name with
 |true=>rfl
 |false=>rw[hh]at h;simp at h
theorem cI {e:En}{t:Tm}{k:Int}(h:mb e t k=0) (hk:t.kind=2):yt e t.name=true:=by
 refine pZ ?_ (by omega);unfold mb at h;split at h
 ·cases h
 ·exact h
theorem Of (a b:Tm):(zr [HX Ho,HI,HX Ho] (IT Hq [a,b]) 0=a.d/\zr [HX Ho,HI,HX Ho] (IT Hq [a,b]) 1=b.d)/\(0<=(0:Int)/\(IT Hq [a,b])[0]? = some a.d)/\(0<=(1:Int)/\(IT Hq [a,b])[1]? = some b.d) :=⟨⟨uS (ts:=[a,b]) (i:=0) rfl,uS (ts:=[a,b]) (i:=1) rfl⟩,⟨by decide,rfl⟩,⟨by decide,rfl⟩⟩
section
variable {G:Nat->IQ (IU D)}{M:Maps}
def Z9 (a:Fm) (b:Nat):D:=zr [HX .i64,HI,HX .i64,HK,HK,HK] (IT HV (Hz a)) (IJ (b:Int))
def pY (a:Sc) (b:IU Pl) (c:IU Ev) (d:Fm):IU Box:=[Hl 166 [.d (.sl (IT H9 (Hk a))),.d (.sl (IT H8 (Hg a))),.d (.sl (IT Hy (Hi a))),.d (.sl (IT Hx (Hh a))),.d (.sl (IT H7 (Hn a))),.d (.sl (IT H6 b))],.cells 146 [.d (.sl (IT HO c))],.cells 85 [.d (.int .i64 (Hj d)),.d (.str (HE d)),.d (.int .i64 (HB d)),.d (.sl (IT Hq (HM d))),.d (.sl (IT ID (HN d))),.d (.sl (IT HV (Hz d)))]]
theorem h136 (s:Sc) (w:IU Pl) (env:IU Ev) (f x:Fm) (i:Nat) (r:Bool) (hx:f.l[i]? = some x) (hrec:IK Tryz.prog G 87 [io s w,.sl (env.map HO),x.d] (· = [.bool r])): HY Tryz.prog G 136 [.d (.int .i64 i),.ptr 0 0,.ptr 1 0,.ptr 2 0] (hP s w env f) (λrs H'=>rs=[.bool r]/\H'=hP s w env f):=by
 unfold io at hrec;refine zB Tryz.func136 rfl ⟨_,_,rfl,rfl⟩ ?_;apply @z7 _ (((0:Int)<=(i:Int)/\(IT HV (Hz f))[IJ (i:Int)]? = some (Z9 f i))/\IK Tryz.prog G 87 [Hd [.sl (IT H9 (Hk s)),.sl (IT H8 (Hg s)),.sl (IT Hy (Hi s)),.sl (IT Hx (Hh s)),.sl (IT H7 (Hn s)),.sl (IT H6 w)],.sl (IT HO env),Z9 f i] λ(rs:IU D)=>∃(b:Bool),rs=[IL b]/\[IL b]=[IL r]/\pY s w env f=pY s w env f)
 ·kernel_rfl
 delta Z9 pY;rw[HF,wZ hx];exact⟨⟨by omega,by simp[hx]⟩,hrec.use ⟨_,rfl,rfl,rfl⟩⟩
theorem NQ {s:IU UInt8}(h:qG s=true) (a b:Int):∃k,(esL.lookup s)=some k/\rN Tryz.prog k=true/\IK Tryz.prog G k [.int .i64 (fE a b)] (· = [.bool (Rl a s b)]):=by
 unfold qG at h;simp only[F9,beq_iff_eq]at h;have c:(a<b/\fE a b = -1)∨(a=b/\fE a b=0)∨(b<a/\fE a b=1):=by
  unfold fE;split
  ·left;omega
  ·split
   ·right;right;omega
   ·right;left;omega
 rcases h with ((((rfl|rfl)|rfl)|rfl)|rfl)|rfl
 ·refine⟨311,rfl,by kernel_rfl,(Jq _).mono ?_⟩;rintro _ rfl;simp only[Rl,Hv];congr 2;rw[Ge,beq_iff_eq,beq_iff_eq];omega
 ·refine⟨312,rfl,by kernel_rfl,(Jp _).mono ?_⟩;rintro _ rfl;show [IL (fE a b != 0)]=[IL (a != b)];congr 2;rw[Ge,bne_iff_ne,bne_iff_ne];omega
 ·refine⟨313,rfl,by kernel_rfl,(Jo _).mono ?_⟩;rintro _ rfl;exact sS (by omega)
 ·refine⟨314,rfl,by kernel_rfl,(Jn _).mono ?_⟩;rintro _ rfl;exact sS (by omega)
 ·refine⟨315,rfl,by kernel_rfl,(Jm _).mono ?_⟩;rintro _ rfl;exact sS (by omega)
 ·refine⟨316,rfl,by kernel_rfl,(Jl _).mono ?_⟩;rintro _ rfl;exact sS (by omega)
theorem NP (s:Sc) (w:IU Pl) (env:IU Ev) (k:Int) (a b:Tm) (hs:s.Fits) (hk:k=3∨k=4∨k=5∨k=6∨k=7∨k=8) (hw:w.length=s.lessons.length) (hv:(sZ k).1=1->0<=(wd env a.name).at_/\(wd env a.name).at_<zU s 1) (op:Nm):∃j,(eaL.lookup k)=some j/\rN Tryz.prog j=true/\IK Tryz.prog G j [io s w,.int .i64 (wd env a.name).at_,.int .i64 (wd env b.name).at_] (· = [.bool (cg s w env k op a b)]):=by
 rcases hk with rfl|rfl|rfl|rfl|rfl|rfl
 ·have:=hv rfl;rw[ur]at this;exact⟨317,rfl,by kernel_rfl,Jk s w _ _ this.1 (by omega)⟩
 ·have:=hv rfl;rw[ur]at this;exact⟨318,rfl,by kernel_rfl,Jj s w _ _ this.1 (by omega)⟩
 ·exact⟨319,rfl,by kernel_rfl,Ji s w _ _ hs⟩
 ·exact⟨321,rfl,by kernel_rfl,Jh s w _ _ hs⟩
 ·exact⟨323,rfl,by kernel_rfl,Jg s w _ _ hs⟩
 ·exact⟨325,rfl,by kernel_rfl,Jf s w _ _ hs⟩
def uG (a:Sc) (b:IU Pl) (c:Fm) (d:IU Ev):IU D:=[IL (GJ a b c d)]
def VA (a:Fm) (b:Sc) (c:IU Pl) (d:IU Ev):Prop:=[IL (Hj a==1)]=uG b c a d
def h87q5:IU Sh:=[HX .i64,HI,HX .i64]
def Zz (a:Fm):D:=zr h87q5 (IT Hq (HM a)) (IJ 0)
def Oe (a:Fm):Prop:=(0:Int)<=0/\(IT Hq (HM a))[IJ 0]? = some (Zz a)
def Od (a:Fm):Prop:=(0:Int)<=1/\(IT Hq (HM a))[IJ 1]? = some (zr h87q5 (IT Hq (HM a)) (IJ 1))
def Sj (a:Sc) (b:IU Pl):D:=Hd [.sl (IT H9 (Hk a)),.sl (IT H8 (Hg a)),.sl (IT Hy (Hi a)),.sl (IT Hx (Hh a)),.sl (IT H7 (Hn a)),.sl (IT H6 b)]
def j2 (a:IU D) (b:Int):Prop:=a=[IP .i64 b]
def qy (a:IU D) (b:Bool):Prop:=a=[IL b]
def U0 (a:IU D) (b:Sc) (c:IU Pl) (d:Fm) (e:IU Ev):Prop:= ∃(b_1:Bool),qy a b_1/\[IL b_1]=uG b c d e
def h87q21:IU AV:=[IA 0 0,.ptr 1 0,.ptr 2 0]
def h87q15:IU AV:=IH (.int .i64 0)::h87q21
def U1 (a:IU D) (b:IU D) (c:IU D):IU AV:=[IH (.sl a),.d (.sl b),.d (.sl c)]
def h87q9 (a:IU D) (b:IU D) (c:IU D) (d:IU D) (e:IU D) (f:IU D):Box:=Hl 166 (IH (.sl a)::IH (.sl b)::IH (.sl c)::U1 d e f)
def U2 (a:Int) (b:IU UInt8) (c:Int) (d:IU D) (e:IU D) (f:IU D):Box:=Hl 85 (IH (.int .i64 a)::IH (.str b)::IH (.int .i64 c)::U1 d e f)
def pX (a:IU D) (b:Int) (c:IU UInt8) (d:Int) (e:IU D) (f:IU D) (g:IU D):IU Box:=[Hl 146 [.d (.sl a)],U2 b c d e f g]
def h87q6:IU AV:=IH (.int .i64 1)::h87q21
def Oc (a:Sc) (b:Fm):IU AV:=[GO [.sl (IT intD (zM a (HN b)))],.iptr [.sl (IT ID (HN b))]]
def h87q1:IU AV:=[IM,.any,.any,.ptr 0 0,.ptr 1 0,.ptr 2 0,.any,.any,.any,.any,.ptr 3 0,.ptr 4 0,.any,.any,.any,.any,.any,.any,.any,.any,.any,.any,.any,.any,.any,.any,.any,.any,.any,.any,.any,.any,.any,.any,.any,.any,.any,.any,.any,.any,.any,.any,.any,.any,.any,.any,.any,.any,.any,.any,.any,.any,.any,.any,.any,.any,.any,.any,.any,.any,.any,.any,.any,.any,.any,.any,.any,.any,.any,.any,.any,.any,.any,.any,.any,.any,.any,.any,.any,.any,.any,.any,.any,.any,.any,.any,.any,.any,.any,.any,.any,.any,.any,.any,.any,.any,.any,.any,.any,.any,.any,.any,.any,.any,.any,.any,.any,.any,.any,.any,.any,.any,.any,.any,.any,.any,.any,.any,.any,.any,.any,.any,.any,.any,.any,.any,.any,.any,.any,.any,.any,.any,.any,.any,.any,.any,.any,.any,.any]
def U3 (a:Int) (b:Int) (c:Int) (d:Sc) (e:IU Pl) (f:Fm) (g:IU Ev) (h:Int):Prop:=((a==14)=true->[IL (b==c)]=uG d e f g)/\((a==14)=false->((a==15)=true->[IL (decide (b>0))]=uG d e f g)/\((a==15)=false->((a==16)=true->[IL (decide (b>=h))]=uG d e f g)/\((a==16)=false->[IL (decide (b<=h))]=uG d e f g)))
def U4 (a:Fm) (b:Maps) (c:Sc) (d:IU Pl) (e:IU Ev):Prop:=((Hj a==9)=true->(F0 (Maps.es b) λ(kv:D×D)=>sameKind (HW (HE a)) (Hw kv)&&Ft Sh.fn (HL kv))=true/\Oe a/\Od a/\IK Tryz.prog (GG b) 138 [Sj c d,.sl (IT HO e),Zz a] λ(rs:IU D)=>∃(n:Int),j2 rs n/\IK Tryz.prog (GG b) 138 [Sj c d,.sl (IT HO e),zr h87q5 (IT Hq (HM a)) (IJ 1)] λ(rs:IU D)=>∃(n_1:Int),j2 rs n_1/\IK Tryz.prog (GG b) 137 [IP .i64 n,.int .i64 n_1] λ(rs:IU D)=>∃(n:Int),j2 rs n/\∃(k:Nat),zzv ((λ(_:Unit)=>none) ()) (λ(val:D)=>(λ(val:D)=>(λ(x:D)=>some (D.toFn x)) val) val) (zT (Maps.es b) (HW (HE a)))=some k/\rN Tryz.prog k=true/\IK Tryz.prog (GG b) k [IP .i64 n] λ(rs:IU D)=>U0 rs c d a e)/\((Hj a==9)=false->((Hj a==10)=true->HY Tryz.prog (GG b) 136 h87q15 (pY c d e a) λ(rs:IU D) (H':IU Box)=>∃(b:Bool),qy rs b/\∃(l:IU D)(l_1:IU D)(l_2:IU D)(l_3:IU D)(l_4:IU D)(l_5:IU D)(l_6:IU D)(n:Int)(s:IU UInt8)(n_1:Int)(l_7:IU D)(l_8:IU D)(l_9:IU D),H'=h87q9 l l_1 l_2 l_3 l_4 l_5::pX l_6 n s n_1 l_7 l_8 l_9/\[IL !b]=uG c d a e)/\((Hj a==10)=false->((Hj a==11)=true->HY Tryz.prog (GG b) 136 h87q15 (pY c d e a) λ(rs:IU D) (H':IU Box)=>∃(b_1:Bool),qy rs b_1/\∃(l:IU D)(l_1:IU D)(l_2:IU D)(l_3:IU D)(l_4:IU D)(l_5:IU D)(l_6:IU D)(n:Int)(s:IU UInt8)(n_1:Int)(l_7:IU D)(l_8:IU D)(l_9:IU D),H'=h87q9 l l_1 l_2 l_3 l_4 l_5::pX l_6 n s n_1 l_7 l_8 l_9/\HY Tryz.prog (GG b) 136 h87q6 (h87q9 l l_1 l_2 l_3 l_4 l_5::pX l_6 n s n_1 l_7 l_8 l_9) λ(rs:IU D) (H':IU Box)=>H'=h87q9 l l_1 l_2 l_3 l_4 l_5::pX l_6 n s n_1 l_7 l_8 l_9/\∃(b:Bool),qy rs b/\[IL (bif b_1 then b else false)]=uG c d a e)/\((Hj a==11)=false->((Hj a==12)=true->HY Tryz.prog (GG b) 136 h87q15 (pY c d e a) λ(rs:IU D) (H':IU Box)=>∃(b_1:Bool),qy rs b_1/\∃(l:IU D)(l_1:IU D)(l_2:IU D)(l_3:IU D)(l_4:IU D)(l_5:IU D)(l_6:IU D)(n:Int)(s:IU UInt8)(n_1:Int)(l_7:IU D)(l_8:IU D)(l_9:IU D),H'=h87q9 l l_1 l_2 l_3 l_4 l_5::pX l_6 n s n_1 l_7 l_8 l_9/\HY Tryz.prog (GG b) 136 h87q6 (h87q9 l l_1 l_2 l_3 l_4 l_5::pX l_6 n s n_1 l_7 l_8 l_9) λ(rs:IU D) (H':IU Box)=>H'=h87q9 l l_1 l_2 l_3 l_4 l_5::pX l_6 n s n_1 l_7 l_8 l_9/\∃(b:Bool),qy rs b/\[IL (bif b_1 then true else b)]=uG c d a e)/\((Hj a==12)=false->((Hj a==13)=true->HY Tryz.prog (GG b) 136 h87q15 (pY c d e a) λ(rs:IU D) (H':IU Box)=>∃(b_1:Bool),qy rs b_1/\∃(l:IU D)(l_1:IU D)(l_2:IU D)(l_3:IU D)(l_4:IU D)(l_5:IU D)(l_6:IU D)(n:Int)(s:IU UInt8)(n_1:Int)(l_7:IU D)(l_8:IU D)(l_9:IU D),H'=h87q9 l l_1 l_2 l_3 l_4 l_5::pX l_6 n s n_1 l_7 l_8 l_9/\HY Tryz.prog (GG b) 136 h87q6 (h87q9 l l_1 l_2 l_3 l_4 l_5::pX l_6 n s n_1 l_7 l_8 l_9) λ(rs:IU D) (H':IU Box)=>H'=h87q9 l l_1 l_2 l_3 l_4 l_5::pX l_6 n s n_1 l_7 l_8 l_9/\∃(b:Bool),qy rs b/\[IL (bif !b_1 then true else b)]=uG c d a e)/\((Hj a==13)=false->(F0 (zzW b) λ(kv:D×D)=>sameKind (IP .i64 (Hj a)) (Hw kv)&&Ft Sh.fn (HL kv))=true/\(B5 (zT (zzW b) (IP .i64 (Hj a)))=true->Oe a/\Od a/\IK Tryz.prog (GG b) 139 [II (IT HO e),Zz a] λ(rs:IU D)=>∃(n:Int),j2 rs n/\IK Tryz.prog (GG b) 139 [II (IT HO e),zr h87q5 (IT Hq (HM a)) (IJ 1)] λ(rs:IU D)=>∃(n_1:Int),j2 rs n_1/\∃(k:Nat),zzv ((λ(_:Unit)=>none) ()) (λ(val:D)=>(λ(val:D)=>(λ(x:D)=>some (D.toFn x)) val) val) (zT (zzW b) (IP .i64 (Hj a)))=some k/\rN Tryz.prog k=true/\IK Tryz.prog (GG b) k [Sj c d,.int .i64 n,.int .i64 n_1] λ(rs:IU D)=>U0 rs c d a e)/\(B5 (zT (zzW b) (IP .i64 (Hj a)))=false->(PFnA Tryz.prog (GG b) 86 [Hd [.sl (IT H9 (Hk c)),.sl (IT H8 (Hg c)),.sl (IT Hy (Hi c)),.sl (IT Hx (Hh c)),.sl (IT H7 (Hn c))],.sl (IT ID (HN a))] λ(av:AV)=>av=Gg 135 [] (Oc c a))/\HY Tryz.prog (GG b) 135 (G2 5::Oc c a) [Hl 166 [.d (.sl (IT H9 (Hk c))),.d (.sl (IT H8 (Hg c))),.d (.sl (IT Hy (Hi c))),.d (.sl (IT Hx (Hh c))),.d (.sl (IT H7 (Hn c))),.d (.sl (IT H6 d))],.cells 146 [.d (.sl (IT HO e))],.cells 85 [.d (.int .i64 (Hj a)),.d (.str (HE a)),.d (.int .i64 (HB a)),.d (.sl (IT Hq (HM a))),.d (.sl (IT ID (HN a))), .d (.sl (IT HV (Hz a)))],.cells 3 [.d (.int .i64 0)],.cells 3 [.d (.int .i64 0)],.loop h87q1 (zY c87) (zk c87) (zX c87) none GY] λ(x:IU D) (H':IU Box)=>∃(l:IU D)(l_1:IU D)(l_2:IU D)(l_3:IU D)(l_4:IU D)(l_5:IU D)(l_6:IU D)(n:Int)(s:IU UInt8)(n_1:Int)(l_7:IU D)(l_8:IU D)(l_9:IU D)(n_2:Int)(n_3:Int)(pend:IQ He)(st:HJ),H'=[h87q9 l l_1 l_2 l_3 l_4 l_5,.cells 146 [.d (.sl l_6)],U2 n s n_1 l_7 l_8 l_9,.cells 3 [.d (.int .i64 n_2)],.cells 3 [.d (.int .i64 n_3)],.loop h87q1 (zY c87) (zk c87) (zX c87) pend st]/\st≠Do/\(pend=none/\U3 n n_2 n_3 c d a e n_1∨pend=some FJ/\[IL false]=uG c d a e∨pend=some (DV (W9 c87))/\U3 n n_2 n_3 c d a e n_1)))))))
theorem h87 (hM:M.Fn) (s:Sc) (w:IU Pl) (f:Fm) (hs:s.Fits):∀env:IU Ev,Pre s w env f->IK Tryz.prog (GG M) 87 [io s w,.sl (env.map HO),f.d] (· = [.bool (f.sem s w env)]):=by
 induction f using Ex with
 |h f ih =>
 intro env hp;have hlen:=hp.len;have h86:=λ(bs:IU Bd) (hb:bs.length<1099511627776)=>h86 (G:=GG M) s bs hs hb;have h136:=λ(x:Fm) (i:Nat) (r:Bool) (hx:f.l[i]? = some x) h=>h136 (G:=GG M) s w env f x i r hx h;have h138:=λ(t:Tm) a b=>h138 (G:=GG M) s w env t hs (by omega) a b;have hat:=λk a b hk hw hv op=>NP (G:=GG M) s w env k a b hs hk hw hv op;rw[zj]at *;unfold io wz at *;have hcl:=f.d_eq;rw[hcl];refine zu (LL [(1000020,uT Tryz.prog (GG M) [3,4,5,10,11] (λ_=>.clo 135 [] [.iptr [wz (zM s f.bs)],.iptr [.sl (f.bs.map ID)]]) c87)]) Tryz.func87 ⟨_,rfl⟩ (zt (xy (by kernel_rfl))) ?_;apply @z7 _ (((Hj f==1)=true->((Hj f==1)=true->VA f s w env)/\((Hj f==1)=false->U4 f M s w env))/\((Hj f==1)=false->((Hj f==2)=true->VA f s w env)/\((Hj f==2)=false->U4 f M s w env)))
 ·kernel_rfl
 delta VA uG U4 Oe Zz h87q5 Od Sj j2 U0 qy h87q15 h87q21 pY Z9 h87q9 U1 pX U2 h87q6 Oc h87q1 U3;have hin:=hp.inE;have hsh:=vx hp.form;have hty:=hp.ty;rw[A1]at hty;have hwk:=hp.wk;have t0:IJ 0=0:=rfl;have t1:IJ 1=1:=rfl;have b1:∀{k n:Int},(k==n)=true->k=n:=λh=>beq_iff_eq.1 h;have b2:∀{k n:Int},(k==n)=false->¬ k=n:=λh=>by rw[←C6,beq_iff_eq]at h;exact h
 refine⟨λh1=>⟨λ_=>?_,λh=>Hu (b1 h1) (b2 h)⟩,λn1=>⟨λh2=>?_,λn2=>⟨λh9=>?_,λn9=>⟨λh10=>?_,λn10=>⟨λh11=>?_,λn11=>⟨λh12=>?_,λn12=>⟨λh13=>?_,λn13=>⟨?_,λhs1=>?_,λhs0=>?_⟩⟩⟩⟩⟩⟩⟩⟩
 ·have k1:=b1 h1;rw[h1];obtain⟨k,op,n,ts,bs,l⟩:=f;have k1:k=1:=k1;subst k1;simp[GJ]
 ·have k1:=b1 h2;rw[n1];obtain⟨k,op,n,ts,bs,l⟩:=f;have k1:k=2:=k1;subst k1;simp[GJ]
 ·have k9:=b1 h9;rw[t0,t1];cases hsh with
  |cmp sg a b hsg ha1 hb1 =>
   obtain⟨⟨g0,g1⟩,v0,v1⟩:=Of a b;have hty:d7 (env.map GL) sg a b=0:=by rw[Hv (show(E1 9 sg 0 [a,b] [] []).kind=9 from rfl)]at hty;exact hty
   have hA:(zV (env.map GL) a).2=0/\(zV (env.map GL) b).2=0:=by
    unfold d7 at hty;by_cases h0:(zV (env.map GL) a).2=0
    ·rw[IE (by simp[h0])]at hty;by_cases h1:(zV (env.map GL) b).2=0
     ·exact⟨h0,h1⟩
     ·rw[Hv h1]at hty;exact Hu hty h1
    ·rw[Hv h0]at hty;exact Hu hty h0
   simp only[HM,Hj,HE];rw[g0,g1];refine⟨by simp only[gO sg];exact hM.esA,v0,v1,(h138 a (λh=>pZ hA.1 h) (aX hin hA.1)).use ⟨_,rfl,(h138 b (λh=>pZ hA.2 h) (aX hin hA.2)).use ⟨_,rfl,(J5 _ _).use ⟨_,rfl,?_⟩⟩⟩⟩;obtain⟨j,hj,hok,hfn⟩:=NQ (G:=GG M) hsg (tu s (wd env a.name) a) (tu s (wd env b.name) b);refine⟨j,?_,hok,hfn.use ⟨_,rfl,rfl⟩⟩;rw[hM.esG,hj];rfl
  |const k hk=>rcases hk with rfl|rfl<;>cases k9
  |atom k a b hk=>exact Hu k9 (by show ¬ k=9;omega)
  |not x hx=>cases k9
  |two k x y hk hx hy=>rcases hk with rfl|rfl|rfl<;>cases k9
  |quant k bs x hk hb h1 h6 hx=>rcases hk with rfl|rfl<;>cases k9
  |count k n bs x hk h0 hn hb h1 h6 hx=>rcases hk with rfl|rfl<;>cases k9
 ·have k10:=b1 h10;rcases kK hsh with⟨k,hk,rfl⟩|hk|⟨x,hx,rfl⟩|⟨k,x,y,hk,hx,hy,rfl⟩|⟨k,n,bs,x,hk,hx,rfl⟩
  ·rcases hk with rfl|rfl<;>cases k10
  ·omega
  ·have ix:=ih x (by simp[Hz]) env (S7 hs hx hp);refine(h136 x 0 _ rfl ix).mono ?_;rintro rs H' ⟨rfl,rfl⟩;exact⟨_,rfl,_,_,_,_,_,_,_,_,_,_,_,_,_,rfl,by simp[GJ,Fh]⟩
  ·rcases hk with rfl|rfl|rfl<;>cases k10
  ·exact Hu k10 (by show ¬ k=10;omega)
 ·have kk:=b1 h11;rcases kK hsh with⟨k,hk,rfl⟩|hk|⟨x,hx,rfl⟩|⟨k,x,y,hk,hx,hy,rfl⟩|⟨k,n,bs,x,hk,hx,rfl⟩
  ·rcases hk with rfl|rfl<;>cases kk
  ·omega
  ·cases kk
  ·have kk:k=11:=kk;subst kk;have hpp:=ip hs hk hx hy hp;have ix:=ih x (by simp[Hz]) env hpp.1;have iy:=ih y (by simp[Hz]) env hpp.2;refine(h136 x 0 _ rfl ix).mono ?_;rintro rs H' ⟨rfl,rfl⟩;refine⟨_,rfl,_,_,_,_,_,_,_,_,_,_,_,_,_,rfl,(h136 y 1 _ rfl iy).mono ?_⟩;rintro rs H' ⟨rfl,rfl⟩;refine⟨rfl,_,rfl,?_⟩;cases hX:GJ s w x env<;>cases hY:GJ s w y env<;>simp[GJ,Fh,hX,hY]
  ·exact Hu kk (by show ¬ k=11;omega)
 ·have kk:=b1 h12;rcases kK hsh with⟨k,hk,rfl⟩|hk|⟨x,hx,rfl⟩|⟨k,x,y,hk,hx,hy,rfl⟩|⟨k,n,bs,x,hk,hx,rfl⟩
  ·rcases hk with rfl|rfl<;>cases kk
  ·omega
  ·cases kk
  ·have kk:k=12:=kk;subst kk;have hpp:=ip hs hk hx hy hp;have ix:=ih x (by simp[Hz]) env hpp.1;have iy:=ih y (by simp[Hz]) env hpp.2;refine(h136 x 0 _ rfl ix).mono ?_;rintro rs H' ⟨rfl,rfl⟩;refine⟨_,rfl,_,_,_,_,_,_,_,_,_,_,_,_,_,rfl,(h136 y 1 _ rfl iy).mono ?_⟩;rintro rs H' ⟨rfl,rfl⟩;refine⟨rfl,_,rfl,?_⟩;cases hX:GJ s w x env<;>cases hY:GJ s w y env<;>simp[GJ,Fh,hX,hY]
  ·exact Hu kk (by show ¬ k=12;omega)
 ·have kk:=b1 h13;rcases kK hsh with⟨k,hk,rfl⟩|hk|⟨x,hx,rfl⟩|⟨k,x,y,hk,hx,hy,rfl⟩|⟨k,n,bs,x,hk,hx,rfl⟩
  ·rcases hk with rfl|rfl<;>cases kk
  ·omega
  ·cases kk
  ·have kk:k=13:=kk;subst kk;have hpp:=ip hs hk hx hy hp;have ix:=ih x (by simp[Hz]) env hpp.1;have iy:=ih y (by simp[Hz]) env hpp.2;refine(h136 x 0 _ rfl ix).mono ?_;rintro rs H' ⟨rfl,rfl⟩;refine⟨_,rfl,_,_,_,_,_,_,_,_,_,_,_,_,_,rfl,(h136 y 1 _ rfl iy).mono ?_⟩;rintro rs H' ⟨rfl,rfl⟩;refine⟨rfl,_,rfl,?_⟩;cases hX:GJ s w x env<;>cases hY:GJ s w y env<;>simp[GJ,Fh,hX,hY]
  ·exact Hu kk (by show ¬ k=13;omega)
 ·simp only[mG f.kind];exact hM.eaA
 ·rw[hM.eaG]at hs1 ⊢;rw[t0,t1];cases hsh with
  |atom k a b hk ha1 hb1 ha2 hb2 =>
   obtain⟨⟨g0,g1⟩,v0,v1⟩:=Of a b;have hk9:¬ k=9:=by omega
   have hab:zC k=true:=by unfold zC;simp;omega
   have hty:gN (env.map GL) k a b=0:=by rw[IE (show ¬ (E1 k [] 0 [a,b] [] []).kind=9 from hk9),Hv (show zC (E1 k [] 0 [a,b] [] []).kind=true from hab)]at hty;exact hty
   have hA:mb (env.map GL) a (sZ k).1=0/\mb (env.map GL) b (sZ k).2=0:=by
    unfold gN at hty;by_cases h0:mb (env.map GL) a (sZ k).1=0
    ·rw[IE (by simp[h0])]at hty;exact⟨h0,hty⟩
    ·rw[Hv h0]at hty;exact Hu hty h0
   simp only[HM,Hj,HE];rw[g0,g1];refine⟨v0,v1,(Lj a env (by omega) (cI hA.1 ha2)).use ⟨_,rfl,(Lj b env (by omega) (cI hA.2 hb2)).use ⟨_,rfl,?_⟩⟩⟩;obtain⟨j,hj,hok,hfn⟩:=hat k a b hk hwk (λh=>by have:=Vl hin ha2 hA.1;rw[h]at this;exact this) [];refine⟨j,by rw[hj];rfl,hok,hfn.use ⟨_,rfl,?_⟩⟩;rw[Xg (f:=E1 k [] 0 [a,b] [] []) (show 3<=k/\k<=9 by omega)];rfl
  |cmp sg a b hsg ha1 hb1=>exact Hu rfl (b2 n9)
  |const k hk=>rcases hk with rfl|rfl<;>simp[eaL,Hj,Bz]at hs1
  |not x hx=>exact Hu rfl (b2 n10)
  |two k x y hk hx hy=>rcases hk with rfl|rfl|rfl<;>simp[eaL,Hj,Bz]at hs1
  |quant k bs x hk hb h1 h6 hx=>rcases hk with rfl|rfl<;>simp[eaL,Hj,Bz]at hs1
  |count k n bs x hk h0 hn hb h1 h6 hx=>rcases hk with rfl|rfl<;>simp[eaL,Hj,Bz]at hs1
 ·rw[hM.eaG]at hs0;rcases kK hsh with⟨k,hk,rfl⟩|hk|⟨x,hx,rfl⟩|⟨k,x,y,hk,hx,hy,rfl⟩|⟨k,n,bs,x,hk,hx,rfl⟩
  ·rcases hk with rfl|rfl
   ·exact Hu rfl (b2 n1)
   ·exact Hu rfl (b2 n2)
  ·exfalso;have n9:=b2 n9;have:f.kind=3∨f.kind=4∨f.kind=5∨f.kind=6∨f.kind=7∨f.kind=8:=by omega
   rcases this with h|h|h|h|h|h<;>rw[h]at hs0<;>cases hs0
  ·exact Hu rfl (b2 n10)
  ·rcases hk with rfl|rfl|rfl
   ·exact Hu rfl (b2 n11)
   ·exact Hu rfl (b2 n12)
   ·exact Hu rfl (b2 n13)
  have hb6:bs.length<=6:=by
   cases hsh with
   |quant k bs x hk hb h1 h6 hx=>exact h6
   |count k n bs x hk h0 hn hb h1 h6 hx=>exact h6
   |not x hx=>simp
  obtain⟨hmany,hpre⟩:=cf hs hk.1 hx hp;have hT:(zg s bs).length<=1048577:=by
   have hm:=yW hs (c:=2097152) (by decide) bs;rcases Ce hm.1 with h0|h0
   ·have:=ls hs (c:=2097152) (by decide) h0 (by omega) bs.length (GE _);rw[FR]at this;omega
   ·rw[pj h0.symm];decide
  have hsem:=ce (s:=s) (w:=w) (k:=k) (n:=n) (bs:=bs) (x:=x) (env:=env) hk.1;have hC:∀y,zyD (λt=>GJ s w x (env++yo bs t)) (HZ y (zg s bs))<=1048577:=λy=>EN C3 (by rw[FS];omega);refine⟨h86 bs (by omega),(LY (G:=GG M) s w env (E1 k [] n [] bs [x]) (λy=>((HZ y (zg s bs)).countP (λt=>GJ s w x (env++yo bs t)):Nat)) bs (by omega) (λb _=>by have:=(rr hs b.sort).2;unfold zU at this;unfold cN;omega) (λy t ht=>?_)).mono ?_⟩
  ·have hm:=GS ht;have hy:y<(zg s bs).length:=by
    rcases G4 y (zg s bs).length with h|h
    ·exact h
    ·rw[Gt h]at ht;cases ht
   have hCy:=hC y;refine(Je (G:=GG M) s w env (E1 k [] n [] bs [x]) x t _ _ _ (by omega) (show bs.length<1099511627776 by omega) (Nat.le_of_eq (u9 hm).symm) rfl (by omega) (by omega) (by omega) (by omega) (ih x (by simp[Hz]) _ (hpre t hm))).mono ?_;rintro rs H' ⟨rfl,rfl⟩;refine⟨rfl,?_⟩;rw[yr ht,Ba,B1,Ac];congr 1
   ·show(if GJ s w x (env++yo bs t)=true then _ else _)=_;cases GJ s w x (env++yo bs t)<;>simp
  ·rintro rs H' rfl;simp only[FR];refine⟨_,_,_,_,_,_,_,_,_,_,_,_,_,_,_,_,_,rfl,by decide,.inl ⟨rfl,?_⟩⟩;have hs1:(λt=>Fh s w [x] 0 (env++yo bs t))=λt=>GJ s w x (env++yo bs t):=by funext t;rw[Fh]
   rw[hsem,hs1];unfold aY;simp only[Hj,HB];refine⟨λh=>?_,λh14=>⟨λh=>?_,λh15=>⟨λh=>?_,λh16=>?_⟩⟩⟩
   ·rw[Hv (b1 h)];congr 2;rw[Ge,beq_iff_eq,beq_iff_eq];omega
   ·rw[IE (b2 h14),Hv (b1 h)];exact sS (by omega)
   ·rw[IE (b2 h14),IE (b2 h15),Hv (b1 h)];exact sS Iff.rfl
   ·rw[IE (b2 h14),IE (b2 h15),IE (b2 h16)];exact sS Iff.rfl
end
end Go.Fo
namespace Go.Fo
open Go Go.Sx Go.Proofs Go.RowKit
section
variable {G:Nat->IQ (IU D)}
theorem Jc (x:Int):IK Tryz.prog G 107 [.int .i32 x] (· = [.bool (vB x)]):=by
 refine zq Tryz.func107 ⟨_,rfl⟩ ?_;apply @z7 _ ([IL (bif bif bif decide (97<=x)then decide (x<=122)else false then true else bif decide (48<=x)then decide (x<=57)else false then true else x==95)]=[IL (vB x)])
 ·kernel_rfl
 unfold vB;simp only[zH,zn]
theorem Jb (x:Int):HY Tryz.prog G 108 [.d (.int .i32 x),.iptr [.fn 107]] [] (λrs H'=>rs=[.bool (!vB x)]/\H'=[]):=by
 refine zB Tryz.func108 rfl ⟨_,_,rfl,rfl⟩ ?_;apply @z7 _ (IK Tryz.prog G 107 [IP .i32 x] λ(rs:IU D)=>∃(b:Bool),rs=[IL b]/\[IL !b]=[IL !vB x]/\([]:IU Box)=[])
 ·kernel_rfl
 exact(Jc x).use ⟨_,rfl,rfl,rfl⟩
theorem Ja (s:IU UInt8):HY Tryz.prog G 109 [.d (.str s),.clo 108 [] [.ptr 0 0]] [.cells 188 [.d (.fn 107)]] (λrs H'=>rs=[.bool (s.any λc=>!vB c.toNat)]/\H'=[.cells 188 [.d (.fn 107)]]):=by
 refine HY.of_below (v:= .bool (s.any λc=>!vB c.toNat)) (λI J w=>R1.bool _) λc w vs hr hg hvs=>?_;obtain⟨v1,vs1,rfl,h1,h2⟩:=hvs.cons_right;obtain⟨v2,vs2,rfl,h3,h4⟩:=h2.cons_right;have:=h4.nil_right;subst this;have hz:=nt hr h3 (r:= .clo 108 [] [.iptr [.fn 107]]) rfl;have:=h1.str;subst this;have hr1:=hr.freeze;have hg1:GR G (c.freeze [.cells 188 [.d (.fn 107)]]) w:=hg.ext (Ext.freeze c _ w);generalize hcz:c.freeze [.cells 188 [.d (.fn 107)]]=cz at hz hr1 hg1;have hρ:cz.ρ=[]:=by subst hcz;rfl
 clear h3 hvs h2 h4 h1;cases hz with
 |@clo _ _ _ fv cv l1 l2 g1 g2 =>
  have:fv=[]:=Df l1.symm;subst this;have hp:PredGrows Tryz.prog 108 cv.toArray (λx=>!vB (x:Int)) w:=by
   intro W x hx hb;have ha:zy (λv a=>RA cz [] W a v) (zvM .i32 x::cv) [.d (.int .i32 x),.iptr [.fn 107]] :=
    zy.cons (.d (R1.int _ _)) ⟨l2.symm,λi v a hv hA=>(g2 i a v hA hv).ext (Ext.below hb hr1) (zl.refl _ _)⟩
   have hc:=(Jb (G:=G) (x:Int)).run cz W _ (HR.below hb hρ hr1) (hg1.ext (Ext.below hb hr1)) ha;have e: #[encR x]++cv.toArray=(zvM .i32 x::cv).toArray:=by simp[encR]
   rw[e];refine hc.mono λen w' h=>?_;obtain⟨v,rs,c',H',rfl,⟨rfl,rfl⟩,_,hE,_,_,hv⟩:=h;cases hv;exact⟨rfl,hE.is_below' hρ⟩
  have hcf:=Tryz.strings_ContainsFunc_grows 108 cv.toArray (enters_of Tryz.func108 (by kernel_rfl) rfl) (λx=>!vB (x:Int)) ⟨s.toArray⟩ w hp;rw[Nf (λr hr=>by unfold vB;simp;omega)]at hcf;exact hcf
theorem JZ (hG:∃m,G 4=some [.int .i64 m]) (s t:IU UInt8) (hs:s.length<4294967281):IK Tryz.prog G 110 [.str s,.str t] (· = [.bool (Lib.contains s t)]):=by obtain⟨m,hm⟩:=hG;refine⟨⟨_,rfl⟩,λc w vs hρ hr hg hvs=>?_⟩;obtain⟨v1,vs1,rfl,h1,h2⟩:=hvs.cons_right;obtain⟨v2,vs2,rfl,h3,h4⟩:=h2.cons_right;have:=h4.nil_right;subst this;cases h1;cases h3;obtain⟨_,v,hv,h5⟩:=hg 4 _ hm 0 _ rfl;cases h5;refine(Tryz.strings_Contains ⟨s.toArray⟩ ⟨t.toArray⟩ m w (by show s.toArray.size<_;simpa using hs) hv).mono λe w' h=>?_;obtain⟨rfl,rfl⟩:=h;exact⟨_,_,c,rfl,rfl,hρ,Ext.refl _ _,hr,R1.bool _⟩
def Ob (a:IU UInt8):Bool:=bif a==Gx (Gy (Gu #[]))then true else decide ((↑(IR a):Int)>64)
def Oa (a:IU UInt8) (b:Bool):Bool:=bif bif Ob a then true else decide ((↑(UInt8.toNat (IU.getD a (IJ 0) (0:UInt8))):Int)<97)then true else b
def h57q4:IU UInt8:=Gx (Gy (Gu #[(32:UInt8)]))
def h57q3:Nat:=IR h57q4
theorem Il (hG:∃m,G 4=some [.int .i64 m]) (s:IU UInt8):IK Tryz.prog G 57 [.str s] (· = [.bool (yw s)]):=by
 refine zq Tryz.func57 ⟨_,rfl⟩ ?_;apply @z7 _ ((Ob s=false->(0:Int)<=0/\IJ 0<IR s)/\HY Tryz.prog G 109 [IH (.str s),.clo 108 [] [IA 0 0]] [Hl 188 [.d (.fn 107)]] λ(rs:IU D) (H':IU Box)=>H'=[Hl 188 [.d (.fn 107)]]/\∃(b:Bool),rs=[IL b]/\(Oa s b=true->[IL false]=[IL (yw s)])/\(Oa s b=false->CJ (h57q3+IR s) 9223372036854775807/\CJ (IR (h57q4++s)+h57q3) 9223372036854775807/\IK Tryz.prog G 110 [HW (Gx (Gy (Gu (IU.toArray (D9 (D9 [(32:UInt8),(104:UInt8),(97:UInt8),(114:UInt8),(100:UInt8),(32:UInt8),(115:UInt8),(111:UInt8),(102:UInt8),(116:UInt8),(32:UInt8),(101:UInt8),(97:UInt8),(99:UInt8),(104:UInt8),(32:UInt8),(97:UInt8),(108:UInt8),(108:UInt8),(32:UInt8),(115:UInt8),(111: UInt8),(109:UInt8),(101:UInt8),(32:UInt8),(108:UInt8),(101:UInt8),(97:UInt8),(115:UInt8),(116:UInt8),(32:UInt8),(109:UInt8),(111:UInt8)] [(115:UInt8),(116:UInt8),(32:UInt8),(116:UInt8),(114:UInt8),(117:UInt8),(101:UInt8),(32:UInt8),(102:UInt8),(97:UInt8),(108:UInt8),(115:UInt8),(101:UInt8),(32:UInt8),(97:UInt8),(116:UInt8),(32:UInt8),(105:UInt8),(110:UInt8),(32:UInt8),(116:UInt8),(101:UInt8),(97:UInt8),(99:UInt8),(104:UInt8),(101:UInt8),(115:UInt8),(32:UInt8),(97:UInt8),(116:UInt8),(116:UInt8),(101:UInt8),(110:UInt8),(100:UInt8)]) (D9 [(115:UInt8),(32:UInt8),(97:UInt8),(119:UInt8),(97:UInt8),(121:UInt8),(32:UInt8),(115:UInt8),(104:UInt8),(117:UInt8),(116:UInt8),(32:UInt8),(100:UInt8),(97:UInt8),(121: UInt8),(32:UInt8),(104:UInt8),(111:UInt8),(117:UInt8),(114:UInt8),(32:UInt8),(104:UInt8),(111:UInt8),(117:UInt8),(115:UInt8),(101:UInt8),(32:UInt8),(115:UInt8),(101:UInt8),(97:UInt8),(116:UInt8),(115:UInt8),(32:UInt8),(115:UInt8)] [(105:UInt8),(122:UInt8),(101:UInt8),(32:UInt8),(108:UInt8),(101:UInt8),(115:UInt8),(115:UInt8),(111:UInt8),(110:UInt8),(32:UInt8),(115:UInt8),(108:UInt8),(111:UInt8),(116:UInt8),(32:UInt8),(114:UInt8),(111:UInt8),(111:UInt8),(109:UInt8),(32:UInt8),(112:UInt8),(101:UInt8),(114:UInt8),(115:UInt8),(111:UInt8),(110:UInt8),(32:UInt8),(103:UInt8),(114:UInt8),(111:UInt8),(117:UInt8),(112:UInt8),(32:UInt8)])))))),.str (h57q4++s++h57q4)] λ(rs:IU D)=>∃(b:Bool),rs=[IL b]/\[IL !b] = [IL (yw s)]))
 ·kernel_rfl
 delta Ob Oa h57q3 h57q4;have e0:Gx (Gy { data:= #[] })=([]:IU UInt8):=rfl;refine⟨λh=>⟨by decide,?_⟩,(Ja s).mono ?_⟩
 ·rw[e0]at h;have hne:s≠[]:=λe=>by subst e;simp at h
  exact IU.length_pos_iff.2 hne
 rintro rs H' ⟨rfl,rfl⟩;refine⟨rfl,_,rfl,λh=>?_,λh=>?_⟩
 ·have hodd:YP s=true:=by unfold YP;rw[←h];simp only[zH,e0];rfl
  rw[YO,hodd];rfl
 ·have hodd:YP s=false:=by unfold YP;rw[←h];simp only[zH,e0];rfl
  have hl:s.length<=64:=by unfold YP at hodd;simp only[E3,HH]at hodd;omega
  refine⟨?_,?_,(JZ hG _ _ ?_).use ⟨_,rfl,?_⟩⟩
  ·show 1+s.length<=9223372036854775807;omega
  ·show([32]++s).length+1<=9223372036854775807;simp;omega
  ·decide
  ·rw[YO,hodd];rfl
end
end Go.Fo
