/- Joined texts: the walk by computed conditions, the contracts of the functions, the plain laws. -/
import Derived.Test.YtfegegkkdfkllaaGreatDoorW1
import Derived.Test.YtfegegkkdfkllaaGreatDoorW2
import Derived.Test.YtfegegkkdfkllaaGreatDoorW3
import Derived.Test.YtfegegkkdfkllaaGreatDoorW4
set_option linter.unusedVariables false
set_option linter.unusedSimpArgs false
set_option maxRecDepth 100000
set_option maxHeartbeats 0
noncomputable section
open Array renaming toList->Gx
open Bool renaming and_eq_true->HC,and_true->zyb,eq_false_iff->zy7,eq_iff_iff->Ge,false_or->FD,not_and->BI,not_eq_true'->Fe,not_eq_true->C6,not_or->AA,or_assoc->zwl,or_eq_false_iff->E3,or_eq_true->F9
open ByteArray renaming data->Gy,mk->Gu
open Decidable renaming em->BH
open Go renaming Code->He,LoopState->HJ,Program->HP
open Go.Code renaming exit->DV,ret->FJ
open Go.Fo renaming Maps->Gf,Odo->F7
open Go.Fo.Bd renaming d->ID
open Go.Fo.Ev renaming d->HO
open Go.Fo.Fm renaming bs->HN,d->HV,kind->Hj,l->Hz,n->HB,name->HE,ts->HM
open Go.Fo.Gr renaming d->Hx
open Go.Fo.In renaming d->GZ
open Go.Fo.Le renaming d->H7
open Go.Fo.Maps renaming ak->Bo
open Go.Fo.Mv renaming d->Dg
open Go.Fo.Odo renaming last->zzf,start->zzn
open Go.Fo.Pe renaming away->Dx,d->Hy
open Go.Fo.Pl renaming d->H6
open Go.Fo.Pn renaming frozen->GX,mk->Cl,rules->F6,sc->HU
open Go.Fo.Rm renaming d->H8
open Go.Fo.Ru renaming body->G7,d->Hm,each->GT,hard->FW,name->FX,weight->FZ
open Go.Fo.Sc renaming groups->Hh,lessons->Hn,people->Hi,rooms->Hg,slots->Hk
open Go.Fo.Sl renaming d->H9,mk->Bl,name->Bq
open Go.Fo.Tm renaming d->Hq,kind->Gh,mk->Dw,n->FO,name->GK
open Go.IntKind renaming wrap->Hr
open Go.LoopState renaming busy->Do,done->Dn,ready->GY
open Go.Sx renaming PCall->HY,PFn->IK,PFnA->Fj,PYield->Gi
open Go.Sx.AV renaming any->IM,clo->Gg,d->IH,iptr->GO,map->Fu,msl->F1,ptr->IA,yld->G2
open Go.Sx.Box renaming cells->Hl,loop->Gz,map->Eh,vec->FY
open Go.Sx.D renaming agg->Hd,bool->IL,int->IP,sl->II,str->HW,toBool->E8,toInt->Hf,toSl->Gl,toStr->Gc
open Go.Sx.PFnA renaming walk->Bv
open Go.Sx.PYield renaming walk->DW
open Go.Sx.Sh renaming bool->EL,int->HX,norm->GP,ok->Ft,sl->HK,str->HI
open Int renaming add_zero->AM,natCast_ediv->zw9,tdiv_eq_ediv_of_nonneg->zzJ,toNat->IJ,toNat_natCast->HF
open List renaming all->F0,all_append->Fb,all_cons->D8,all_eq_true->G3,all_nil->zyQ,any->Fk,any_append->B2,any_cons->E5,any_eq_true->Dr,any_nil->BJ,append->D9,contains_cons->BZ,contains_iff_mem->Dt,drop->GM,drop_eq_nil_of_le->Fx,eq_nil_of_length_eq_zero->Df,find?_cons->EQ,getD->DF,getElem?_eq_some_iff->zxZ,getElem?_map->G5,length->IR,length_cons->F2,length_map->H4,length_nil->FL,length_take->FS,map->IT,map_append->GI,map_cons->Gb,map_nil->FQ,map_replicate->Cg,map_take->BM,mem_map->Gd,mem_of_mem_take->De,replicate->G8,reverse->G6,take->HZ,take_of_length_le->Gs,take_sublist->B0
open Nat renaming div_le_self->zyk,eq_zero_or_pos->C4,le_of_ble_eq_true->GC,le_refl->GE,lt_or_ge->G4,mul_le_mul->B4,pow_succ->zyS,zero_le->GD
open Option renaming getD->IB,isSome->B5,rec->zzv
open Prod renaming fst->Hw,snd->HL
open UInt8 renaming toNat->B9
open _root_ renaming False->HD,List->IU,Option->IQ,True->IN,absurd->Hu,congrArg->Gv,decide_eq_false_iff_not->HH,decide_eq_true_eq->HS,if_neg->IE,if_pos->Hv,of_decide_eq_true->G0
namespace Go.Fo
open Go Go.Sx Go.Proofs
section
variable {G:Nat->IQ (IU D)}
def c26:He:=unScope (z8 (z8 (z6 Tryz.f26) 0) 0)
def tm26:IU AV:=[.any,.ptr 0 0,.ptr 1 0,.any,.ptr 3 0,.any,.any,.any,.any,.any,.any,.any,.any,.any,.any,.any,.any,.any,.any,.any,.any,.any,.any,.any,.any,.any,.any,.any,.any,.any,.any,.any,.any,.any,.any,.any,.any,.any,.any,.any,.any,.any,.any,.any,.any,.any,.any,.any,.any,.any,.any,.any,.any,.any,.any,.any,.any,.any,.any,.any,.any,.any,.any,.any,.any,.any,.any,.any,.any,.any,.any,.any,.any,.any,.any,.any,.any,.any,.any,.any,.any,.any,.any,.any,.any,.any,.any,.any,.any,.any,.any,.any,.any,.any,.any,.any,.any,.any,.any,.any,.any,.any,.any,.any,.any,.any,.any,.any,.any,.any,.any,.any,.any,.any,.any,.any,.any,.any,.any,.any,.any,.any,.any,.any,.any,.any,.any,.any,.any,.any,.any,.any,.any,.any,.any,.any]
def xm (l:IU Nm):IU (D×D):=l.map λn=>(.str n,.bool true)
def hK (s:Sc) (l:IU Nm):IU Box:=[.cells 28 (nh s),.cells 43 [.d (.int .i64 0)],.map (xm l),.cells 122 [.map 2],.loop tm26 (zY c26) (zk c26) (zX c26) none .ready]
def N7 (s:Sc) (l:IU Nm):IU Box:=[.cells 28 (nh s),.cells 43 [.d (.int .i64 1)],.map (xm l),.cells 122 [.map 2],.loop tm26 (zY c26) (zk c26) (zX c26) (some .ret) .done]
theorem Si (n:Nm) (l:IU Nm):((xm l).all λkv=>sameKind (.str n) kv.1&&Ft .bool kv.2)=true:=by rw[G3];intro d hd;obtain⟨t,_,rfl⟩:=Gd.1 hd;rfl
theorem XP (n:Nm):∀l:IU Nm,zT (xm l) (.str n)=if l.contains n then some (.bool true)else none
 |[]=>rfl
 |a::l=>by
  have ih:=XP n l;unfold zT at *;unfold xm at *;rw[Gb,EQ];by_cases e:n=a
  ·subst e;simp[beqD]
  ·have:beqD (.str n) (.str a)=false:=by simp[beqD,e]
   rw[this];simp only[BZ,beq_eq_false_iff_ne.2 e,FD];exact ih
theorem LV (b:Bool) (X Y:IU Box):∃rs H',(b=true->rs=[IL true]/\H'=X)/\(b=false->rs=[IL false]/\H'=Y):=by
 cases b
 ·refine⟨[.bool false],Y,⟨λh=>?_,λ_=>⟨rfl,rfl⟩⟩⟩;cases h
 ·refine⟨[.bool true],X,⟨λ_=>⟨rfl,rfl⟩,λh=>?_⟩⟩;cases h
theorem Ra (b:Bool) (X:IU Box) (s:Sc):∃(rs:IU D) (H':IU Box),rs=[]/\(b=true->H'=X)/\(b=false->∃m,H'=N7 s m):=by
 cases b
 ·refine⟨[],N7 s [],rfl,λh=>?_,λ_=>⟨[],rfl⟩⟩;cases h
 ·refine⟨[],X,rfl,λ_=>rfl,λh=>?_⟩;cases h
theorem tN {l:IU Nm}{x:Nat}{z:Nm}(h:l[x]? = some z) (hp:za (l.take x)=true):za (l.take (x+1))=(yw z&& !(l.take x).contains z):=by
 unfold za at *;rw[HC]at hp;rw[Ge];simp only[HC,HS,Fe]at hp ⊢;rw[u6 h,yr h,Fb];simp only[HC,D8,zyQ,zyb];have:(HZ x l).contains z=false↔z∉HZ x l:=by rw[←C6,Dt]
 rw[this];constructor
 ·rintro⟨⟨_,h1⟩,_,h2⟩;exact⟨h1,h2⟩
 ·rintro⟨h1,h2⟩;exact⟨⟨hp.1,h1⟩,hp.2,h2⟩
theorem rk {l:IU Nm}{x:Nat}(h:za l=true):za (l.take x)=true:=by unfold za at *;simp only[HC,HS,G3]at h ⊢;exact⟨λn hn=>h.1 n (De hn),h.2.sublist (B0 _ _)⟩
theorem Sg (n:Nm):∀l:IU Nm,l.contains n=false->updD (xm l) (.str n) (.bool true)=xm (l++[n])
 |[],_=>rfl
 |a::l,h=>by simp only[BZ,E3]at h;have ih:=Sg n l h.2;have:beqD (.str n) (.str a)=false:=h.1;show(if beqD (.str n) (.str a)=true then _ else _)=_;rw[this];show(HW a,IL true)::updD (xm l) (.str n) (.bool true)=_;rw[ih];rfl
def XO (a:IU Nm) (b:Nm) (c:Bool):Bool:=bif E8 (IB (zT (xm a) (HW b)) (IL false))then true else !c
def ne (a:Nm) (b:IU Nm):Bool:=yw a&& !IU.contains b a
def yKq5:IU D:=[IL false]
def yKq7:IU D:=[IL true]
def qx (a:Sc):Box:=Hl 28 [.d (.sl (IT H9 (Hk a))),.d (.sl (IT H8 (Hg a))),.d (.sl (IT Hy (Hi a))),.d (.sl (IT Hx (Hh a))),.d (.sl (IT H7 (Hn a)))]
def yKq2:IU AV:=[IM,.ptr 0 0,.ptr 1 0,.any,.ptr 3 0,.any,.any,.any,.any,.any,.any,.any,.any,.any,.any,.any,.any,.any,.any,.any,.any,.any,.any,.any,.any,.any,.any,.any,.any,.any,.any,.any,.any,.any,.any,.any,.any,.any,.any,.any,.any,.any,.any,.any,.any,.any,.any,.any,.any,.any,.any,.any,.any,.any,.any,.any,.any,.any,.any,.any,.any,.any,.any,.any,.any,.any,.any,.any,.any,.any,.any,.any,.any,.any,.any,.any,.any,.any,.any,.any,.any,.any,.any,.any,.any,.any,.any,.any,.any,.any,.any,.any,.any,.any,.any,.any,.any,.any,.any,.any,.any,.any,.any,.any,.any,.any,.any,.any,.any,.any,.any,.any,.any,.any,.any,.any,.any,.any,.any,.any,.any,.any,.any,.any,.any,.any,.any,.any,.any,.any,.any,.any,.any,.any,.any,.any]
def rj (a:Sc) (b:IU Nm):IU Box:=[qx a,.cells 43 [.d (.int .i64 1)],.map (xm b),.cells 122 [.map 2],.loop yKq2 (zY c26) (zk c26) (zX c26) (some FJ) Dn]
def yKq9:IU Box:=[Hl 122 [.map 2],.loop yKq2 (zY c26) (zk c26) (zX c26) none GY]
def XN (a:Sc) (b:IU Nm) (c:Nm):IU Box:=qx a::Hl 43 [.d (.int .i64 0)]::Eh (xm (b++[c]))::yKq9
def XM (a:Sc) (b:IU Nm) (c:Nm):IU Box:=qx a::Hl 43 [.d (.int .i64 0)]::Eh (updD (xm b) (HW c) (IL true))::yKq9
theorem OZ (hG:∃m,G 4=some [.int .i64 m]) (s:Sc) (i:Int) (nm:Nm) (l:IU Nm):Gi Tryz.prog G 4 [.d (.int .i64 i),.d (.str nm)] (hK s l) (λrs H'=>((yw nm&& !l.contains nm)=true->rs=[.bool true]/\H'=hK s (l++[nm]))/\((yw nm&& !l.contains nm)=false->rs=[.bool false]/\H'=N7 s l)):=by
 refine DW (tm:=tm26) (ps:=zY c26) (asn:=zk c26) (bd:=zX c26) mixed L0 rfl (by kernel_rfl) rfl rfl (LV _ _ _) (λ_=>ns (by kernel_rfl)) (λ_=>ns (by kernel_rfl)) ?_;apply @z7 _ ((F0 (xm l) λ(kv:D×D)=>sameKind (HW nm) (Hw kv)&&Ft EL (HL kv))=true/\IK Tryz.prog G 57 [HW nm] λ(rs:IU D)=>∃(b:Bool),rs=[IL b]/\(XO l nm b=true->(ne nm l=true->yKq5=yKq7/\rj s l=XN s l nm)/\(ne nm l=false->yKq5=yKq5/\rj s l=rj s l))/\(XO l nm b=false->(F0 (xm l) λ(kv:D×D)=>sameKind (HW nm) (Hw kv))=true/\(ne nm l=true->yKq7=yKq7/\XM s l nm=XN s l nm)/\(ne nm l=false->yKq7=yKq5/\XM s l nm=rj s l)))
 ·kernel_rfl
 delta XO ne yKq5 yKq7 rj qx yKq2 XN yKq9 XM;have hl:E8 (IB (zT (xm l) (HW nm)) (IL false))=l.contains nm:=by rw[XP];cases l.contains nm<;>rfl
 rw[hl];refine⟨Si nm l,(Il hG nm).use ⟨_,rfl,λh=>?_,λh=>?_⟩⟩
 ·have hc:(yw nm&& !l.contains nm)=false:=by cases h1:yw nm<;>cases h2:l.contains nm<;>rw[h1,h2]at h<;>first|rfl|cases h
  rw[hc];exact⟨λh=>Hu h (by decide),λ_=>⟨rfl,rfl⟩⟩
 ·have hc:l.contains nm=false/\yw nm=true:=by cases h1:yw nm<;>cases h2:l.contains nm<;>rw[h1,h2]at h<;>first|exact⟨rfl,rfl⟩|cases h
  refine⟨?_,?_⟩
  ·have:=Si nm l;rw[G3]at this ⊢;intro kv hkv;have:=this kv hkv;rw[HC]at this;exact this.1
  ·rw[hc.1,hc.2,Sg nm l hc.1];exact⟨λ_=>⟨rfl,rfl⟩,λh=>Hu h (by decide)⟩
def tM (a:IU Le):IU Nm:=IT (λ(x:Le)=>Le.name x) a
def qw (a:Nat) (b:IU Le):IU Nm:=HZ a (tM b)
def pW (a:Nat) (b:IU Le):Prop:=a<=IR b/\za (qw a b)=true
def h95Kq1:Box:=Gz yKq2 (zY c26) (zk c26) (zX c26) none GY
def mq (a:IU Le) (b:Nat):D:=zr [HI,HK,HK] (IT H7 a) (IJ (b:Int))
def qv (a:Sc) (b:Nat) (c:IU Le):IU Box:=qx a::Hl 43 [.d (.int .i64 0)]::Eh (xm (qw b c))::yKq9
def xN (a:IU D) (b:IU D) (c:IU D) (d:IU D) (e:IU D) (f:Int) (g:IU (D×D)) (h:IQ He) (i:HJ):IU Box:=[Hl 28 [.d (.sl a),.d (.sl b),.d (.sl c),.d (.sl d),.d (.sl e)],.cells 43 [.d (.int .i64 f)],.map g,.cells 122 [.map 2],.loop yKq2 (zY c26) (zk c26) (zX c26) h i]
def mp (a:Sc) (b:IU Le):IU Box:=qx a::Hl 43 [.d (.int .i64 0)]::Eh (xm (tM b))::yKq9
def mo (a:IU D) (b:IU Box) (c:IU Le) (d:Sc) (e:Nat):Prop:= ∃(b_1:Bool),a=[IL b_1]/\∃(l:IU D)(l_1:IU D)(l_2:IU D)(l_3:IU D)(l_4:IU D)(n:Int)(es:IU (D×D)),∃(pend:IQ He)(st:HJ),b=xN l l_1 l_2 l_3 l_4 n es pend st/\((!b_1)=true->([]:IU D)=[]/\(za (tM c)=true->xN l l_1 l_2 l_3 l_4 n es pend st=mp d c)/\(za (tM c)=false->∃(m:IU Nm),xN l l_1 l_2 l_3 l_4 n es pend st=rj d m))/\((!b_1)=false->∃(y:Nat),pW y c/\IR c - y<IR c - e/\(IH (.fn 96)=IH (.fn 96)/\G2 4=G2 4/\IT H7 c=IT H7 c/\(↑(IR (IT H7 c)):Int)=(↑(IR (IT H7 c)):Int)/\Hr .i64 ((e:Int)+1)=(y:Int)/\IN)/\(l=IT H9 (Hk d)/\l_1=IT H8 (Hg d)/\l_2=IT Hy (Hi d)/\l_3=IT Hx (Hh d)/\l_4=IT H7 (Hn d)/\IN)/\(n=0/\IN)/\es=xm (qw y c)/\(Fu 2=Fu 2/\IN)/\Gz yKq2 (zY c26) (zk c26) (zX c26) pend st=h95Kq1/\IN)
theorem JY (hG:∃m,G 4=some [.int .i64 m]) (s:Sc) (l:IU Le) (hl:l.length<1099511627776):HY Tryz.prog G 95 [.d (.sl (l.map H7)),.d (.fn 96),.yld 4] (hK s []) (λrs H'=>rs=[]/\(za (l.map (·.name))=true->H'=hK s (l.map (·.name)))/\(za (l.map (·.name))=false->∃m,H'=N7 s m)):=by
 refine zZ (LL [(1,ze (α:=Nat) Tryz.prog G L0 5 (z8 (z6 Tryz.f95) 0) [1,2,9,10] (λi=>i<=l.length/\za ((l.map (·.name)).take i)=true) (λi=>l.length - i) (λi=>[(11,.d (.int .i64 i))]) (λH i=>hK s ((l.map (·.name)).take i)++H.drop 5))]) Tryz.func95 rfl (Ra _ _ _) (zt zz) ?_;apply @z7 _ (∃(x0:Nat),pW x0 l/\((IH (.fn 96)=IH (.fn 96)/\G2 4=G2 4/\IT H7 l=IT H7 l/\(↑(IR (IT H7 l)):Int)=(↑(IR (IT H7 l)):Int)/\(0:Int)=(x0:Int)/\IN)/\(IT H9 (Hk s)=IT H9 (Hk s)/\IT H8 (Hg s)=IT H8 (Hg s)/\IT Hy (Hi s)=IT Hy (Hi s)/\IT Hx (Hh s)=IT Hx (Hh s)/\IT H7 (Hn s)=IT H7 (Hn s)/\IN)/\((0:Int)=0/\IN)/\[]=xm (qw x0 l)/\(Fu 2=Fu 2/\IN)/\h95Kq1=h95Kq1/\IN)/\∀(x:Nat),pW x l->(decide ((x:Int)<(↑(IR (IT H7 l)):Int))=true->((0:Int)<=(x:Int)/\(IT H7 l)[IJ (x:Int)]? = some (mq l x))/\((!false)=true->IK Tryz.prog G 96 [mq l x] λ(rs:IU D)=>∃(s_1:IU UInt8),rs=[HW s_1]/\Gi Tryz.prog G 4 [IH (.int .i64 (x:Int)),.d (.str s_1)] (qv s x l) λ(rs:IU D) (H':IU Box)=>mo rs H' l s x)/\((!false)=false->Gi Tryz.prog G 4 [IH (.int .i64 (x:Int)),.d (.str (Gx (Gy (Gu #[]))))] (qv s x l) λ(rs:IU D) (H':IU Box)=>mo rs H' l s x))/\(decide ((x:Int)<(↑(IR (IT H7 l)):Int))=false->([]:IU D)=[]/\(za (tM l)=true->qv s x l=mp s l)/\(za (tM l)=false->∃(m:IU Nm),qv s x l=rj s m)))
 ·kernel_rfl
 delta pW qw tM h95Kq1 yKq2 XO ne yKq5 yKq7 rj qx XN yKq9 XM mq qv mo xN mp;refine⟨0,⟨by omega,rfl⟩,by and_intros<;>first|rfl|trivial,λx hx=>⟨λhlt=>?_,λhge=>?_⟩⟩
 ·simp only[H4,HS]at hlt;obtain⟨z,hz,hm⟩:=zw (l:=l) (x:=x) (by omega);have hn:(l.map (·.name))[x]? = some z.name:=by rw[G5,hz];rfl
  have hsn:=tN hn hx.2;rw[HF,uO hz];refine⟨⟨by omega,uN hz⟩,λ_=>(I5 z).use ⟨_,rfl,(OZ hG s x z.name _).mono ?_⟩,λh=>Hu h (by decide)⟩;intro rs H' h;cases hb:(yw z.name&& !((l.map (·.name)).take x).contains z.name)with
  |false =>
   obtain⟨rfl,rfl⟩:=h.2 hb;refine⟨false,rfl,_,_,_,_,_,_,_,_,_,rfl,λ_=>⟨rfl,λhN=>?_,λ_=>⟨_,rfl⟩⟩,λh=>Hu h (by decide)⟩;rw[hb,rk hN]at hsn;cases hsn
  |true =>
   obtain⟨rfl,rfl⟩:=h.1 hb;refine⟨true,rfl,_,_,_,_,_,_,_,_,_,rfl,λh=>Hu h (by decide),λ_=>⟨x+1,⟨by omega,by rw[hsn,hb]⟩,by omega,?_⟩⟩;have e1:Hr .i64 ((x:Int)+1)=((x+1:Nat):Int):=by rw[zx (by omega) (by omega)];rfl
   have e2:xm ((l.map (·.name)).take x++[z.name])=xm ((l.map (·.name)).take (x+1)):=by rw[yr hn]
   and_intros<;>first|exact e1|exact e2|rfl|trivial
 ·simp only[H4,HH]at hge;have hx2:=hx.2;rw[Gs (by rw[H4];omega)]at hx2 ⊢;rw[hx2];exact⟨rfl,λ_=>rfl,λh=>Hu h (by decide)⟩
def mn (a:IU Sl):IU Nm:=IT (λ(x:Sl)=>Bq x) a
def ee (a:Nat) (b:IU Sl):IU Nm:=HZ a (mn b)
def Zy (a:Nat) (b:IU Sl):Prop:=a<=IR b/\za (ee a b)=true
def U5 (a:IU Sl) (b:Nat):D:=zr [HI,HX .i64,HX .i64] (IT H9 a) (IJ (b:Int))
def eZ (a:Sc) (b:Nat) (c:IU Sl):IU Box:=qx a::Hl 43 [.d (.int .i64 0)]::Eh (xm (ee b c))::yKq9
def U6 (a:Sc) (b:IU Sl):IU Box:=qx a::Hl 43 [.d (.int .i64 0)]::Eh (xm (mn b))::yKq9
def U7 (a:IU D) (b:IU Box) (c:IU Sl) (d:Sc) (e:Nat):Prop:= ∃(b_1:Bool),a=[IL b_1]/\∃(l:IU D)(l_1:IU D)(l_2:IU D)(l_3:IU D)(l_4:IU D)(n:Int)(es:IU (D×D)),∃(pend:IQ He)(st:HJ),b=xN l l_1 l_2 l_3 l_4 n es pend st/\((!b_1)=true->([]:IU D)=[]/\(za (mn c)=true->xN l l_1 l_2 l_3 l_4 n es pend st=U6 d c)/\(za (mn c)=false->∃(m:IU Nm),xN l l_1 l_2 l_3 l_4 n es pend st=rj d m))/\((!b_1)=false->∃(y:Nat),Zy y c/\IR c - y<IR c - e/\(IH (.fn 98)=IH (.fn 98)/\G2 4=G2 4/\IT H9 c=IT H9 c/\(↑(IR (IT H9 c)):Int)=(↑(IR (IT H9 c)):Int)/\Hr .i64 ((e:Int)+1)=(y:Int)/\IN)/\(l=IT H9 (Hk d)/\l_1=IT H8 (Hg d)/\l_2=IT Hy (Hi d)/\l_3=IT Hx (Hh d)/\l_4=IT H7 (Hn d)/\IN)/\(n=0/\IN)/\es=xm (ee y c)/\(Fu 2=Fu 2/\IN)/\Gz yKq2 (zY c26) (zk c26) (zX c26) pend st=h95Kq1/\IN)
theorem JX (hG:∃m,G 4=some [.int .i64 m]) (s:Sc) (l:IU Sl) (hl:l.length<1099511627776):HY Tryz.prog G 97 [.d (.sl (l.map H9)),.d (.fn 98),.yld 4] (hK s []) (λrs H'=>rs=[]/\(za (l.map (·.name))=true->H'=hK s (l.map (·.name)))/\(za (l.map (·.name))=false->∃m,H'=N7 s m)):=by
 refine zZ (LL [(1,ze (α:=Nat) Tryz.prog G L0 5 (z8 (z6 Tryz.f97) 0) [1,2,9,10] (λi=>i<=l.length/\za ((l.map (·.name)).take i)=true) (λi=>l.length - i) (λi=>[(11,.d (.int .i64 i))]) (λH i=>hK s ((l.map (·.name)).take i)++H.drop 5))]) Tryz.func97 rfl (Ra _ _ _) (zt zz) ?_;apply @z7 _ (∃(x0:Nat),Zy x0 l/\((IH (.fn 98)=IH (.fn 98)/\G2 4=G2 4/\IT H9 l=IT H9 l/\(↑(IR (IT H9 l)):Int)=(↑(IR (IT H9 l)):Int)/\(0:Int)=(x0:Int)/\IN)/\(IT H9 (Hk s)=IT H9 (Hk s)/\IT H8 (Hg s)=IT H8 (Hg s)/\IT Hy (Hi s)=IT Hy (Hi s)/\IT Hx (Hh s)=IT Hx (Hh s)/\IT H7 (Hn s)=IT H7 (Hn s)/\IN)/\((0:Int)=0/\IN)/\[]=xm (ee x0 l)/\(Fu 2=Fu 2/\IN)/\h95Kq1=h95Kq1/\IN)/\∀(x:Nat),Zy x l->(decide ((x:Int)<(↑(IR (IT H9 l)):Int))=true->((0:Int)<=(x:Int)/\(IT H9 l)[IJ (x:Int)]? = some (U5 l x))/\((!false)=true->IK Tryz.prog G 98 [U5 l x] λ(rs:IU D)=>∃(s_1:IU UInt8),rs=[HW s_1]/\Gi Tryz.prog G 4 [IH (.int .i64 (x:Int)),.d (.str s_1)] (eZ s x l) λ(rs:IU D) (H':IU Box)=>U7 rs H' l s x)/\((!false)=false->Gi Tryz.prog G 4 [IH (.int .i64 (x:Int)),.d (.str (Gx (Gy (Gu #[]))))] (eZ s x l) λ(rs:IU D) (H':IU Box)=>U7 rs H' l s x))/\(decide ((x:Int)<(↑(IR (IT H9 l)):Int))=false->([]:IU D)=[]/\(za (mn l)=true->eZ s x l=U6 s l)/\(za (mn l)=false->∃(m:IU Nm),eZ s x l=rj s m)))
 ·kernel_rfl
 delta Zy ee mn h95Kq1 pW qw tM yKq2 XO ne yKq5 yKq7 rj qx XN yKq9 XM mq qv mo xN mp U5 eZ U7 U6;refine⟨0,⟨by omega,rfl⟩,by and_intros<;>first|rfl|trivial,λx hx=>⟨λhlt=>?_,λhge=>?_⟩⟩
 ·simp only[H4,HS]at hlt;obtain⟨z,hz,hm⟩:=zw (l:=l) (x:=x) (by omega);have hn:(l.map (·.name))[x]? = some z.name:=by rw[G5,hz];rfl
  have hsn:=tN hn hx.2;rw[HF,uR hz];refine⟨⟨by omega,uQ hz⟩,λ_=>(I6 z).use ⟨_,rfl,(OZ hG s x z.name _).mono ?_⟩,λh=>Hu h (by decide)⟩;intro rs H' h;cases hb:(yw z.name&& !((l.map (·.name)).take x).contains z.name)with
  |false =>
   obtain⟨rfl,rfl⟩:=h.2 hb;refine⟨false,rfl,_,_,_,_,_,_,_,_,_,rfl,λ_=>⟨rfl,λhN=>?_,λ_=>⟨_,rfl⟩⟩,λh=>Hu h (by decide)⟩;rw[hb,rk hN]at hsn;cases hsn
  |true =>
   obtain⟨rfl,rfl⟩:=h.1 hb;refine⟨true,rfl,_,_,_,_,_,_,_,_,_,rfl,λh=>Hu h (by decide),λ_=>⟨x+1,⟨by omega,by rw[hsn,hb]⟩,by omega,?_⟩⟩;have e1:Hr .i64 ((x:Int)+1)=((x+1:Nat):Int):=by rw[zx (by omega) (by omega)];rfl
   have e2:xm ((l.map (·.name)).take x++[z.name])=xm ((l.map (·.name)).take (x+1)):=by rw[yr hn]
   and_intros<;>first|exact e1|exact e2|rfl|trivial
 ·simp only[H4,HH]at hge;have hx2:=hx.2;rw[Gs (by rw[H4];omega)]at hx2 ⊢;rw[hx2];exact⟨rfl,λ_=>rfl,λh=>Hu h (by decide)⟩
def ml (a:IU Rm):IU Nm:=IT (λ(x:Rm)=>Rm.name x) a
def eY (a:Nat) (b:IU Rm):IU Nm:=HZ a (ml b)
def Zx (a:Nat) (b:IU Rm):Prop:=a<=IR b/\za (eY a b)=true
def U8 (a:IU Rm) (b:Nat):D:=zr [HI,HX .i64,HX .i64,HK] (IT H8 a) (IJ (b:Int))
def eX (a:Sc) (b:Nat) (c:IU Rm):IU Box:=qx a::Hl 43 [.d (.int .i64 0)]::Eh (xm (eY b c))::yKq9
def U9 (a:Sc) (b:IU Rm):IU Box:=qx a::Hl 43 [.d (.int .i64 0)]::Eh (xm (ml b))::yKq9
def Uz (a:IU D) (b:IU Box) (c:IU Rm) (d:Sc) (e:Nat):Prop:= ∃(b_1:Bool),a=[IL b_1]/\∃(l:IU D)(l_1:IU D)(l_2:IU D)(l_3:IU D)(l_4:IU D)(n:Int)(es:IU (D×D)),∃(pend:IQ He)(st:HJ),b=xN l l_1 l_2 l_3 l_4 n es pend st/\((!b_1)=true->([]:IU D)=[]/\(za (ml c)=true->xN l l_1 l_2 l_3 l_4 n es pend st=U9 d c)/\(za (ml c)=false->∃(m:IU Nm),xN l l_1 l_2 l_3 l_4 n es pend st=rj d m))/\((!b_1)=false->∃(y:Nat),Zx y c/\IR c - y<IR c - e/\(IH (.fn 100)=IH (.fn 100)/\G2 4=G2 4/\IT H8 c=IT H8 c/\(↑(IR (IT H8 c)):Int)=(↑(IR (IT H8 c)):Int)/\Hr .i64 ((e:Int)+1)=(y:Int)/\IN)/\(l=IT H9 (Hk d)/\l_1=IT H8 (Hg d)/\l_2=IT Hy (Hi d)/\l_3=IT Hx (Hh d)/\l_4=IT H7 (Hn d)/\IN)/\(n=0/\IN)/\es=xm (eY y c)/\(Fu 2=Fu 2/\IN)/\Gz yKq2 (zY c26) (zk c26) (zX c26) pend st=h95Kq1/\IN)
theorem JW (hG:∃m,G 4=some [.int .i64 m]) (s:Sc) (l:IU Rm) (hl:l.length<1099511627776):HY Tryz.prog G 99 [.d (.sl (l.map H8)),.d (.fn 100),.yld 4] (hK s []) (λrs H'=>rs=[]/\(za (l.map (·.name))=true->H'=hK s (l.map (·.name)))/\(za (l.map (·.name))=false->∃m,H'=N7 s m)):=by
 refine zZ (LL [(1,ze (α:=Nat) Tryz.prog G L0 5 (z8 (z6 Tryz.f99) 0) [1,2,9,10] (λi=>i<=l.length/\za ((l.map (·.name)).take i)=true) (λi=>l.length - i) (λi=>[(11,.d (.int .i64 i))]) (λH i=>hK s ((l.map (·.name)).take i)++H.drop 5))]) Tryz.func99 rfl (Ra _ _ _) (zt zz) ?_;apply @z7 _ (∃(x0:Nat),Zx x0 l/\((IH (.fn 100)=IH (.fn 100)/\G2 4=G2 4/\IT H8 l=IT H8 l/\(↑(IR (IT H8 l)):Int)=(↑(IR (IT H8 l)):Int)/\(0:Int)=(x0:Int)/\IN)/\(IT H9 (Hk s)=IT H9 (Hk s)/\IT H8 (Hg s)=IT H8 (Hg s)/\IT Hy (Hi s)=IT Hy (Hi s)/\IT Hx (Hh s)=IT Hx (Hh s)/\IT H7 (Hn s)=IT H7 (Hn s)/\IN)/\((0:Int)=0/\IN)/\[]=xm (eY x0 l)/\(Fu 2=Fu 2/\IN)/\h95Kq1=h95Kq1/\IN)/\∀(x:Nat),Zx x l->(decide ((x:Int)<(↑(IR (IT H8 l)):Int))=true->((0:Int)<=(x:Int)/\(IT H8 l)[IJ (x:Int)]? = some (U8 l x))/\((!false)=true->IK Tryz.prog G 100 [U8 l x] λ(rs:IU D)=>∃(s_1:IU UInt8),rs=[HW s_1]/\Gi Tryz.prog G 4 [IH (.int .i64 (x:Int)),.d (.str s_1)] (eX s x l) λ(rs:IU D) (H':IU Box)=>Uz rs H' l s x)/\((!false)=false->Gi Tryz.prog G 4 [IH (.int .i64 (x:Int)),.d (.str (Gx (Gy (Gu #[]))))] (eX s x l) λ(rs:IU D) (H':IU Box)=>Uz rs H' l s x))/\(decide ((x:Int)<(↑(IR (IT H8 l)):Int))=false->([]:IU D)=[]/\(za (ml l)=true->eX s x l=U9 s l)/\(za (ml l)=false->∃(m:IU Nm),eX s x l=rj s m)))
 ·kernel_rfl
 delta Zx eY ml h95Kq1 pW qw tM yKq2 XO ne yKq5 yKq7 rj qx XN yKq9 XM mq qv mo xN mp U8 eX Uz U9;refine⟨0,⟨by omega,rfl⟩,by and_intros<;>first|rfl|trivial,λx hx=>⟨λhlt=>?_,λhge=>?_⟩⟩
 ·simp only[H4,HS]at hlt;obtain⟨z,hz,hm⟩:=zw (l:=l) (x:=x) (by omega);have hn:(l.map (·.name))[x]? = some z.name:=by rw[G5,hz];rfl
  have hsn:=tN hn hx.2;rw[HF,uP hz];refine⟨⟨by omega,tY hz⟩,λ_=>(Lh z).use ⟨_,rfl,(OZ hG s x z.name _).mono ?_⟩,λh=>Hu h (by decide)⟩;intro rs H' h;cases hb:(yw z.name&& !((l.map (·.name)).take x).contains z.name)with
  |false =>
   obtain⟨rfl,rfl⟩:=h.2 hb;refine⟨false,rfl,_,_,_,_,_,_,_,_,_,rfl,λ_=>⟨rfl,λhN=>?_,λ_=>⟨_,rfl⟩⟩,λh=>Hu h (by decide)⟩;rw[hb,rk hN]at hsn;cases hsn
  |true =>
   obtain⟨rfl,rfl⟩:=h.1 hb;refine⟨true,rfl,_,_,_,_,_,_,_,_,_,rfl,λh=>Hu h (by decide),λ_=>⟨x+1,⟨by omega,by rw[hsn,hb]⟩,by omega,?_⟩⟩;have e1:Hr .i64 ((x:Int)+1)=((x+1:Nat):Int):=by rw[zx (by omega) (by omega)];rfl
   have e2:xm ((l.map (·.name)).take x++[z.name])=xm ((l.map (·.name)).take (x+1)):=by rw[yr hn]
   and_intros<;>first|exact e1|exact e2|rfl|trivial
 ·simp only[H4,HH]at hge;have hx2:=hx.2;rw[Gs (by rw[H4];omega)]at hx2 ⊢;rw[hx2];exact⟨rfl,λ_=>rfl,λh=>Hu h (by decide)⟩
def qu (a:IU Pe):IU Nm:=IT (λ(x:Pe)=>Pe.name x) a
def lW (a:Nat) (b:IU Pe):IU Nm:=HZ a (qu b)
def iW (a:Nat) (b:IU Pe):Prop:=a<=IR b/\za (lW a b)=true
def Zw (a:IU Pe) (b:Nat):D:=zr [HI,HK] (IT Hy a) (IJ (b:Int))
def lV (a:Sc) (b:Nat) (c:IU Pe):IU Box:=qx a::Hl 43 [.d (.int .i64 0)]::Eh (xm (lW b c))::yKq9
def Zv (a:Sc) (b:IU Pe):IU Box:=qx a::Hl 43 [.d (.int .i64 0)]::Eh (xm (qu b))::yKq9
def Zu (a:IU D) (b:IU Box) (c:IU Pe) (d:Sc) (e:Nat):Prop:= ∃(b_1:Bool),a=[IL b_1]/\∃(l:IU D)(l_1:IU D)(l_2:IU D)(l_3:IU D)(l_4:IU D)(n:Int)(es:IU (D×D)),∃(pend:IQ He)(st:HJ),b=xN l l_1 l_2 l_3 l_4 n es pend st/\((!b_1)=true->([]:IU D)=[]/\(za (qu c)=true->xN l l_1 l_2 l_3 l_4 n es pend st=Zv d c)/\(za (qu c)=false->∃(m:IU Nm),xN l l_1 l_2 l_3 l_4 n es pend st=rj d m))/\((!b_1)=false->∃(y:Nat),iW y c/\IR c - y<IR c - e/\(IH (.fn 102)=IH (.fn 102)/\G2 4=G2 4/\IT Hy c=IT Hy c/\(↑(IR (IT Hy c)):Int)=(↑(IR (IT Hy c)):Int)/\Hr .i64 ((e:Int)+1)=(y:Int)/\IN)/\(l = IT H9 (Hk d)/\l_1=IT H8 (Hg d)/\l_2=IT Hy (Hi d)/\l_3=IT Hx (Hh d)/\l_4=IT H7 (Hn d)/\IN)/\(n=0/\IN)/\es=xm (lW y c)/\(Fu 2=Fu 2/\IN)/\Gz yKq2 (zY c26) (zk c26) (zX c26) pend st=h95Kq1/\IN)
theorem LU (hG:∃m,G 4=some [.int .i64 m]) (s:Sc) (l:IU Pe) (hl:l.length<1099511627776):HY Tryz.prog G 101 [.d (.sl (l.map Hy)),.d (.fn 102),.yld 4] (hK s []) (λrs H'=>rs=[]/\(za (l.map (·.name))=true->H'=hK s (l.map (·.name)))/\(za (l.map (·.name))=false->∃m,H'=N7 s m)):=by
 refine zZ (LL [(1,ze (α:=Nat) Tryz.prog G L0 5 (z8 (z6 Tryz.f101) 0) [1,2,9,10] (λi=>i<=l.length/\za ((l.map (·.name)).take i)=true) (λi=>l.length - i) (λi=>[(11,.d (.int .i64 i))]) (λH i=>hK s ((l.map (·.name)).take i)++H.drop 5))]) Tryz.func101 rfl (Ra _ _ _) (zt zz) ?_;apply @z7 _ (∃(x0:Nat),iW x0 l/\((IH (.fn 102)=IH (.fn 102)/\G2 4=G2 4/\IT Hy l=IT Hy l/\(↑(IR (IT Hy l)):Int)=(↑(IR (IT Hy l)):Int)/\(0:Int)=(x0:Int)/\IN)/\(IT H9 (Hk s)=IT H9 (Hk s)/\IT H8 (Hg s)=IT H8 (Hg s)/\IT Hy (Hi s)=IT Hy (Hi s)/\IT Hx (Hh s)=IT Hx (Hh s)/\IT H7 (Hn s)=IT H7 (Hn s)/\IN)/\((0:Int)=0/\IN)/\[]=xm (lW x0 l)/\(Fu 2=Fu 2/\IN)/\h95Kq1=h95Kq1/\IN)/\∀(x:Nat),iW x l->(decide ((x:Int)<(↑(IR (IT Hy l)):Int))=true->((0:Int)<=(x:Int)/\(IT Hy l)[IJ (x:Int)]? = some (Zw l x))/\((!false)=true->IK Tryz.prog G 102 [Zw l x] λ(rs:IU D)=>∃(s_1:IU UInt8),rs=[HW s_1]/\Gi Tryz.prog G 4 [IH (.int .i64 (x:Int)),.d (.str s_1)] (lV s x l) λ(rs:IU D) (H':IU Box)=>Zu rs H' l s x)/\((!false)=false->Gi Tryz.prog G 4 [IH (.int .i64 (x:Int)),.d (.str (Gx (Gy (Gu #[]))))] (lV s x l) λ(rs:IU D) (H':IU Box)=>Zu rs H' l s x))/\(decide ((x:Int)<(↑(IR (IT Hy l)):Int))=false->([]:IU D)=[]/\(za (qu l)=true->lV s x l=Zv s l)/\(za (qu l)=false->∃(m:IU Nm),lV s x l=rj s m)))
 ·kernel_rfl
 delta iW lW qu h95Kq1 pW qw tM yKq2 XO ne yKq5 yKq7 rj qx XN yKq9 XM mq qv mo xN mp Zw lV Zu Zv;refine⟨0,⟨by omega,rfl⟩,by and_intros<;>first|rfl|trivial,λx hx=>⟨λhlt=>?_,λhge=>?_⟩⟩
 ·simp only[H4,HS]at hlt;obtain⟨z,hz,hm⟩:=zw (l:=l) (x:=x) (by omega);have hn:(l.map (·.name))[x]? = some z.name:=by rw[G5,hz];rfl
  have hsn:=tN hn hx.2;rw[HF,pu hz];refine⟨⟨by omega,nN hz⟩,λ_=>(Lg z).use ⟨_,rfl,(OZ hG s x z.name _).mono ?_⟩,λh=>Hu h (by decide)⟩;intro rs H' h;cases hb:(yw z.name&& !((l.map (·.name)).take x).contains z.name)with
  |false =>
   obtain⟨rfl,rfl⟩:=h.2 hb;refine⟨false,rfl,_,_,_,_,_,_,_,_,_,rfl,λ_=>⟨rfl,λhN=>?_,λ_=>⟨_,rfl⟩⟩,λh=>Hu h (by decide)⟩;rw[hb,rk hN]at hsn;cases hsn
  |true =>
   obtain⟨rfl,rfl⟩:=h.1 hb;refine⟨true,rfl,_,_,_,_,_,_,_,_,_,rfl,λh=>Hu h (by decide),λ_=>⟨x+1,⟨by omega,by rw[hsn,hb]⟩,by omega,?_⟩⟩;have e1:Hr .i64 ((x:Int)+1)=((x+1:Nat):Int):=by rw[zx (by omega) (by omega)];rfl
   have e2:xm ((l.map (·.name)).take x++[z.name])=xm ((l.map (·.name)).take (x+1)):=by rw[yr hn]
   and_intros<;>first|exact e1|exact e2|rfl|trivial
 ·simp only[H4,HH]at hge;have hx2:=hx.2;rw[Gs (by rw[H4];omega)]at hx2 ⊢;rw[hx2];exact⟨rfl,λ_=>rfl,λh=>Hu h (by decide)⟩
def qt (a:IU Gr):IU Nm:=IT (λ(x:Gr)=>Gr.name x) a
def lU (a:Nat) (b:IU Gr):IU Nm:=HZ a (qt b)
def iV (a:Nat) (b:IU Gr):Prop:=a<=IR b/\za (lU a b)=true
def Zt (a:IU Gr) (b:Nat):D:=zr [HI,HX .i64] (IT Hx a) (IJ (b:Int))
def lT (a:Sc) (b:Nat) (c:IU Gr):IU Box:=qx a::Hl 43 [.d (.int .i64 0)]::Eh (xm (lU b c))::yKq9
def Zs (a:Sc) (b:IU Gr):IU Box:=qx a::Hl 43 [.d (.int .i64 0)]::Eh (xm (qt b))::yKq9
def Zr (a:IU D) (b:IU Box) (c:IU Gr) (d:Sc) (e:Nat):Prop:= ∃(b_1:Bool),a=[IL b_1]/\∃(l:IU D)(l_1:IU D)(l_2:IU D)(l_3:IU D)(l_4:IU D)(n:Int)(es:IU (D×D)),∃(pend:IQ He)(st:HJ),b=xN l l_1 l_2 l_3 l_4 n es pend st/\((!b_1)=true->([]:IU D)=[]/\(za (qt c)=true->xN l l_1 l_2 l_3 l_4 n es pend st=Zs d c)/\(za (qt c)=false->∃(m:IU Nm),xN l l_1 l_2 l_3 l_4 n es pend st=rj d m))/\((!b_1)=false->∃(y:Nat),iV y c/\IR c - y<IR c - e/\(IH (.fn 104)=IH (.fn 104)/\G2 4=G2 4/\IT Hx c=IT Hx c/\(↑(IR (IT Hx c)):Int)=(↑(IR (IT Hx c)):Int)/\Hr .i64 ((e:Int)+1)=(y:Int)/\IN)/\(l = IT H9 (Hk d)/\l_1=IT H8 (Hg d)/\l_2=IT Hy (Hi d)/\l_3=IT Hx (Hh d)/\l_4=IT H7 (Hn d)/\IN)/\(n=0/\IN)/\es=xm (lU y c)/\(Fu 2=Fu 2/\IN)/\Gz yKq2 (zY c26) (zk c26) (zX c26) pend st=h95Kq1/\IN)
theorem LS (hG:∃m,G 4=some [.int .i64 m]) (s:Sc) (l:IU Gr) (hl:l.length<1099511627776):HY Tryz.prog G 103 [.d (.sl (l.map Hx)),.d (.fn 104),.yld 4] (hK s []) (λrs H'=>rs=[]/\(za (l.map (·.name))=true->H'=hK s (l.map (·.name)))/\(za (l.map (·.name))=false->∃m,H'=N7 s m)):=by
 refine zZ (LL [(1,ze (α:=Nat) Tryz.prog G L0 5 (z8 (z6 Tryz.f103) 0) [1,2,9,10] (λi=>i<=l.length/\za ((l.map (·.name)).take i)=true) (λi=>l.length - i) (λi=>[(11,.d (.int .i64 i))]) (λH i=>hK s ((l.map (·.name)).take i)++H.drop 5))]) Tryz.func103 rfl (Ra _ _ _) (zt zz) ?_;apply @z7 _ (∃(x0:Nat),iV x0 l/\((IH (.fn 104)=IH (.fn 104)/\G2 4=G2 4/\IT Hx l=IT Hx l/\(↑(IR (IT Hx l)):Int)=(↑(IR (IT Hx l)):Int)/\(0:Int)=(x0:Int)/\IN)/\(IT H9 (Hk s)=IT H9 (Hk s)/\IT H8 (Hg s)=IT H8 (Hg s)/\IT Hy (Hi s)=IT Hy (Hi s)/\IT Hx (Hh s)=IT Hx (Hh s)/\IT H7 (Hn s)=IT H7 (Hn s)/\IN)/\((0:Int)=0/\IN)/\[]=xm (lU x0 l)/\(Fu 2=Fu 2/\IN)/\h95Kq1=h95Kq1/\IN)/\∀(x:Nat),iV x l->(decide ((x:Int)<(↑(IR (IT Hx l)):Int))=true->((0:Int)<=(x:Int)/\(IT Hx l)[IJ (x:Int)]? = some (Zt l x))/\((!false)=true->IK Tryz.prog G 104 [Zt l x] λ(rs:IU D)=>∃(s_1:IU UInt8),rs=[HW s_1]/\Gi Tryz.prog G 4 [IH (.int .i64 (x:Int)),.d (.str s_1)] (lT s x l) λ(rs:IU D) (H':IU Box)=>Zr rs H' l s x)/\((!false)=false->Gi Tryz.prog G 4 [IH (.int .i64 (x:Int)),.d (.str (Gx (Gy (Gu #[]))))] (lT s x l) λ(rs:IU D) (H':IU Box)=>Zr rs H' l s x))/\(decide ((x:Int)<(↑(IR (IT Hx l)):Int))=false->([]:IU D)=[]/\(za (qt l)=true->lT s x l=Zs s l)/\(za (qt l)=false->∃(m:IU Nm),lT s x l=rj s m)))
 ·kernel_rfl
 delta iV lU qt h95Kq1 pW qw tM yKq2 XO ne yKq5 yKq7 rj qx XN yKq9 XM mq qv mo xN mp Zt lT Zr Zs;refine⟨0,⟨by omega,rfl⟩,by and_intros<;>first|rfl|trivial,λx hx=>⟨λhlt=>?_,λhge=>?_⟩⟩
 ·simp only[H4,HS]at hlt;obtain⟨z,hz,hm⟩:=zw (l:=l) (x:=x) (by omega);have hn:(l.map (·.name))[x]? = some z.name:=by rw[G5,hz];rfl
  have hsn:=tN hn hx.2;rw[HF,nM hz];refine⟨⟨by omega,ke hz⟩,λ_=>(Lf z).use ⟨_,rfl,(OZ hG s x z.name _).mono ?_⟩,λh=>Hu h (by decide)⟩;intro rs H' h;cases hb:(yw z.name&& !((l.map (·.name)).take x).contains z.name)with
  |false =>
   obtain⟨rfl,rfl⟩:=h.2 hb;refine⟨false,rfl,_,_,_,_,_,_,_,_,_,rfl,λ_=>⟨rfl,λhN=>?_,λ_=>⟨_,rfl⟩⟩,λh=>Hu h (by decide)⟩;rw[hb,rk hN]at hsn;cases hsn
  |true =>
   obtain⟨rfl,rfl⟩:=h.1 hb;refine⟨true,rfl,_,_,_,_,_,_,_,_,_,rfl,λh=>Hu h (by decide),λ_=>⟨x+1,⟨by omega,by rw[hsn,hb]⟩,by omega,?_⟩⟩;have e1:Hr .i64 ((x:Int)+1)=((x+1:Nat):Int):=by rw[zx (by omega) (by omega)];rfl
   have e2:xm ((l.map (·.name)).take x++[z.name])=xm ((l.map (·.name)).take (x+1)):=by rw[yr hn]
   and_intros<;>first|exact e1|exact e2|rfl|trivial
 ·simp only[H4,HH]at hge;have hx2:=hx.2;rw[Gs (by rw[H4];omega)]at hx2 ⊢;rw[hx2];exact⟨rfl,λ_=>rfl,λh=>Hu h (by decide)⟩
end
def yg {α:Type}(p:α->Bool):IU α->Nat->Int
 |[],_=>-1
 |z::r,i=>if p z=true then(i:Int)else yg p r (i+1)
theorem tK {α:Type}(p:α->Bool) (l:IU α):decide (yg p l 0>=0)=l.any p:=by
 have:∀(l:IU α) (i:Nat),(0<=yg p l i↔l.any p=true):=by
  intro l;induction l with
  |nil=>intro i;simp[yg]
  |cons z r ih =>
   intro i;rw[yg,E5];cases hp:p z with
   |true=>simp
   |false=>simp[ih (i+1)]
 rw[Ge,HS];exact this l 0
def RN (s:Sc) (e:Int) (es:IU (D×D)) (n:Int):IU Box:=[.cells 28 (nh s),.cells 43 [.d (.int .i64 e)],.map es,.cells 3 [.d (.int .i64 n)]]
def MH (s:Sc) (e:Int) (es:IU (D×D)) (n p g:Int):IU Box:=[.cells 28 (nh s),.cells 43 [.d (.int .i64 e)],.map es,.cells 3 [.d (.int .i64 n)],.cells 3 [.d (.int .i64 p)],.cells 3 [.d (.int .i64 g)]]
section
variable {G:Nat->IQ (IU D)}
def wc (a:Sc) (b:Int) (c:IU (D×D)) (d:Int):IU Box:=[Hl 28 [.d (.sl (IT H9 (Hk a))),.d (.sl (IT H8 (Hg a))),.d (.sl (IT Hy (Hi a))),.d (.sl (IT Hx (Hh a))),.d (.sl (IT H7 (Hn a)))],.cells 43 [.d (.int .i64 b)],.map c,.cells 3 [.d (.int .i64 d)]]
theorem Ik (s:Sc) (e:Int) (es:IU (D×D)) (n:Int) (z:Rm) (hz:z.shut.length<4611686018427387904):HY Tryz.prog G 59 [.d z.d,.ptr 3 0] (RN s e es n) (λrs H'=>rs=[.bool (!xP n z)]/\H'=RN s e es n):=by
 unfold H8;refine zB Tryz.func59 rfl ⟨_,_,rfl,rfl⟩ ?_;apply @z7 _ (IK Tryz.prog G 58 [IP .i64 (Rm.house z),.int .i64 7] λ(rs:IU D)=>∃(b:Bool),rs=[IL b]/\IK Tryz.prog G 58 [IP .i64 (Rm.seats z),.int .i64 1000] λ(rs:IU D)=>∃(b_1:Bool),rs=[IL b_1]/\IK Tryz.prog G 60 [II (IT intD (Rm.shut z)),.int .i64 n] λ(rs:IU D)=>∃(b_2:Bool),rs=[IL b_2]/\[IL (bif bif !b then true else !b_1 then true else !b_2)]=[IL !xP n z]/\wc s e es n=wc s e es n)
 ·kernel_rfl
 delta wc;refine(Lo z.house 7).use ⟨_,rfl,(Lo z.seats 1000).use ⟨_,rfl,(Kl z.shut n hz).use ⟨_,rfl,?_,rfl⟩⟩⟩;unfold xP;simp only[zH,BI,zwl]
theorem Ij (s:Sc) (e:Int) (es:IU (D×D)) (n:Int) (z:Pe) (hz:z.away.length<4611686018427387904):HY Tryz.prog G 61 [.d z.d,.ptr 3 0] (RN s e es n) (λrs H'=>rs=[.bool (!y3 z.away n)]/\H'=RN s e es n):=by
 unfold Hy;refine zB Tryz.func61 rfl ⟨_,_,rfl,rfl⟩ ?_;apply @z7 _ (IK Tryz.prog G 60 [II (IT intD (Dx z)),.int .i64 n] λ(rs:IU D)=>∃(b:Bool),rs=[IL b]/\[IL !b]=[IL !y3 (Dx z) n]/\wc s e es n=wc s e es n)
 ·kernel_rfl
 delta wc;exact(Kl z.away n hz).use ⟨_,rfl,rfl,rfl⟩
theorem Ii (z:Gr):IK Tryz.prog G 62 [z.d] (· = [.bool (!xw z)]):=by
 unfold Hx;refine zq Tryz.func62 ⟨_,rfl⟩ ?_;apply @z7 _ (IK Tryz.prog G 58 [IP .i64 (Gr.size z),.int .i64 1000] λ(rs:IU D)=>∃(b:Bool),rs=[IL b]/\[IL !b]=[IL !xw z])
 ·kernel_rfl
 exact(Lo z.size 1000).use ⟨_,rfl,rfl⟩
def uc (a:Int):IU AV:=[IH (.int .i64 a)]
def tJ (a:Sc) (b:Int) (c:IU (D×D)) (d:Int) (e:Int) (f:Int):IU Box:=[Hl 28 [.d (.sl (IT H9 (Hk a))),.d (.sl (IT H8 (Hg a))),.d (.sl (IT Hy (Hi a))),.d (.sl (IT Hx (Hh a))),.d (.sl (IT H7 (Hn a)))],.cells 43 (uc b),.map c,.cells 3 (uc d),.cells 3 (uc e),.cells 3 (uc f)]
theorem Ih (s:Sc) (e:Int) (es:IU (D×D)) (n p g:Int) (z:Le) (hz:z.who.length<4611686018427387904) (hy:z.groups.length<4611686018427387904):HY Tryz.prog G 63 [.d z.d,.ptr 4 0,.ptr 5 0] (MH s e es n p g) (λrs H'=>rs=[.bool (!yX p g z)]/\H'=MH s e es n p g):=by
 unfold H7;refine zB Tryz.func63 rfl ⟨_,_,rfl,rfl⟩ ?_;apply @z7 _ (IK Tryz.prog G 60 [II (IT intD (Le.who z)),.int .i64 p] λ(rs:IU D)=>∃(b:Bool),rs=[IL b]/\IK Tryz.prog G 60 [II (IT intD (Le.groups z)),.int .i64 g] λ(rs:IU D)=>∃(b_1:Bool),rs=[IL b_1]/\[IL (bif !b then true else !b_1)]=[IL !yX p g z]/\tJ s e es n p g=tJ s e es n p g)
 ·kernel_rfl
 delta tJ uc;refine(Kl z.who p hz).use ⟨_,rfl,(Kl z.groups g hy).use ⟨_,rfl,?_,rfl⟩⟩;unfold yX;simp only[zH,BI]
def qr (a:Nat) (b:IU Rm) (c:Int):Prop:=a<=IR b/\yg (λ(z:Rm)=>!xP c z) (GM a b) a=yg (λ(z:Rm)=>!xP c z) b 0
def og (a:IU Rm) (b:Nat):D:=zr [HI,HX .i64,HX .i64,HK] (IT H8 a) (IJ (b:Int))
def wN (a:IU D) (b:IU D) (c:IU D) (d:IU D) (e:IU D) (f:Int) (g:IU (D×D)) (h:Int):IU Box:=[Hl 28 [.d (.sl a),.d (.sl b),.d (.sl c),.d (.sl d),.d (.sl e)],.cells 43 (uc f),.map g,.cells 3 (uc h)]
theorem LR (s:Sc) (e:Int) (es:IU (D×D)) (n:Int) (l:IU Rm) (hl:l.length<4611686018427387904) (hq:∀z∈l,z.shut.length<4611686018427387904):HY Tryz.prog G 111 [.d (.sl (l.map H8)),.clo 59 [] [.ptr 3 0]] (RN s e es n) (λrs H'=>rs=[.int .i64 (yg (λz=>!xP n z) l 0)]/\H'=RN s e es n):=by
 refine zZ (LL [(2,ze (α:=Nat) Tryz.prog G L0 4 (z8 (z6 Tryz.f111) 0) [0,1,7] (λi=>i<=l.length/\yg (λz=>!xP n z) (l.drop i) i=yg (λz=>!xP n z) l 0) (λi=>l.length - i) (λi=>[(8,.d (.int .i64 i))]) (λH _=>H))]) Tryz.func111 rfl ⟨_,_,rfl,rfl⟩ (zt zz) ?_;apply @z7 _ (∃(x0:Nat),qr x0 l n/\((IT H8 l=IT H8 l/\Gg 59 [] [IA 3 0]=Gg 59 [] [IA 3 0]/\(↑(IR (IT H8 l)):Int)=(↑(IR (IT H8 l)):Int)/\(0:Int)=(x0:Int)/\IN)/\(IT H9 (Hk s)=IT H9 (Hk s)/\IT H8 (Hg s)=IT H8 (Hg s)/\IT Hy (Hi s)=IT Hy (Hi s)/\IT Hx (Hh s)=IT Hx (Hh s)/\IT H7 (Hn s)=IT H7 (Hn s)/\IN)/\(e=e/\IN)/\es=es/\(n=n/\IN)/\IN)/\∀(x:Nat),qr x l n->(decide ((x:Int)<(↑(IR (IT H8 l)):Int))=true->((0:Int)<=(x:Int)/\(IT H8 l)[IJ (x:Int)]? = some (og l x))/\HY Tryz.prog G 59 [IH (og l x),.ptr 3 0] (wc s e es n) λ(rs:IU D) (H':IU Box)=>∃(b:Bool),rs=[IL b]/\∃(l_1:IU D)(l_2:IU D)(l_3:IU D)(l_4:IU D)(l_5:IU D)(n_1:Int)(es_1:IU (D×D)),∃(n_2:Int),H'=wN l_1 l_2 l_3 l_4 l_5 n_1 es_1 n_2/\(b=true->[IP .i64 (x:Int)]=[IP .i64 (yg (λ(z:Rm)=>!xP n z) l 0)]/\wN l_1 l_2 l_3 l_4 l_5 n_1 es_1 n_2=wc s e es n)/\(b=false->∃(y:Nat),qr y l n/\IR l - y<IR l - x/\(IT H8 l=IT H8 l/\Gg 59 [] [IA 3 0]=Gg 59 [] [IA 3 0]/\(↑(IR (IT H8 l)):Int)=(↑(IR (IT H8 l)):Int)/\Hr .i64 ((x:Int)+1)=(y:Int)/\IN)/\(l_1=IT H9 (Hk s)/\l_2=IT H8 (Hg s)/\l_3=IT Hy (Hi s)/\l_4=IT Hx (Hh s)/\l_5=IT H7 (Hn s)/\IN)/\(n_1=e/\IN)/\es_1=es/\(n_2=n/\IN)/\IN))/\(decide ((x:Int)<(↑(IR (IT H8 l)):Int))=false->[IP .i64 (-1)]=[IP .i64 (yg (λ(z:Rm)=>!xP n z) l 0)]/\wc s e es n=wc s e es n))
 ·kernel_rfl
 delta qr og wc wN uc tJ;refine⟨0,⟨GD _,rfl⟩,by and_intros<;>first|rfl|trivial,λx hx=>⟨λhlt=>?_,λhge=>?_⟩⟩
 ·simp only[H4,HS]at hlt;obtain⟨z,hz,hm⟩:=zw (l:=l) (x:=x) (by omega);have hx2:=hx.2;rw[ye hz,yg]at hx2;rw[HF,uP hz];refine⟨⟨by omega,tY hz⟩,(Ik s e es n z (hq z hm)).mono ?_⟩;rintro rs H' ⟨rfl,rfl⟩;have e1:Hr .i64 ((x:Int)+1)=((x+1:Nat):Int):=by rw[zx (by omega) (by omega)];rfl
  refine⟨_,rfl,_,_,_,_,_,_,_,_,rfl,λhb=>⟨?_,rfl⟩,λhb=>⟨x+1,⟨by omega,?_⟩,by omega,by and_intros<;>first|rfl|trivial|exact e1⟩⟩
  ·rw[Hv hb]at hx2;rw[hx2]
  ·rw[IE (by rw[hb];decide)]at hx2;exact hx2
 ·simp only[H4,HH]at hge;have hx2:=hx.2;rw[Fx (by omega),yg]at hx2;exact⟨by rw[hx2],rfl⟩
theorem JV (s:Sc) (e:Int) (es:IU (D×D)) (n:Int) (l:IU Rm) (hl:l.length<4611686018427387904) (hq:∀z∈l,z.shut.length<4611686018427387904):HY Tryz.prog G 64 [.d (.sl (l.map H8)),.clo 59 [] [.ptr 3 0]] (RN s e es n) (λrs H'=>rs=[.bool (l.any λz=>!xP n z)]/\H'=RN s e es n):=by
 refine zB Tryz.func64 rfl ⟨_,_,rfl,rfl⟩ ?_;apply @z7 _ (HY Tryz.prog G 111 [IH (.sl (IT H8 l)),.clo 59 [] [IA 3 0]] (wc s e es n) λ(rs:IU D) (H':IU Box)=>∃(n_1:Int),rs=[IP .i64 n_1]/\∃(l_1:IU D)(l_2:IU D)(l_3:IU D)(l_4:IU D)(l_5:IU D)(n_2:Int)(es_1:IU (D×D)),∃(n_3:Int),H'=wN l_1 l_2 l_3 l_4 l_5 n_2 es_1 n_3/\[IL (decide (n_1>=0))]=[IL (Fk l λ(z:Rm)=>!xP n z)]/\wN l_1 l_2 l_3 l_4 l_5 n_2 es_1 n_3=wc s e es n)
 ·kernel_rfl
 delta wc wN qr og uc tJ;refine(LR (G:=G) s e es n l hl hq).mono ?_;rintro rs H' ⟨rfl,rfl⟩;refine⟨_,rfl,_,_,_,_,_,_,_,_,rfl,?_,rfl⟩;rw[tK]
def iU (a:Nat) (b:IU Pe) (c:Int):Prop:=a<=IR b/\yg (λ(z:Pe)=>!y3 (Dx z) c) (GM a b) a=yg (λ(z:Pe)=>!y3 (Dx z) c) b 0
def Zq (a:IU Pe) (b:Nat):D:=zr [HI,HK] (IT Hy a) (IJ (b:Int))
theorem LQ (s:Sc) (e:Int) (es:IU (D×D)) (n:Int) (l:IU Pe) (hl:l.length<4611686018427387904) (hq:∀z∈l,z.away.length<4611686018427387904):HY Tryz.prog G 112 [.d (.sl (l.map Hy)),.clo 61 [] [.ptr 3 0]] (RN s e es n) (λrs H'=>rs=[.int .i64 (yg (λz=>!y3 z.away n) l 0)]/\H'=RN s e es n):=by
 refine zZ (LL [(2,ze (α:=Nat) Tryz.prog G L0 4 (z8 (z6 Tryz.f112) 0) [0,1,7] (λi=>i<=l.length/\yg (λz=>!y3 z.away n) (l.drop i) i=yg (λz=>!y3 z.away n) l 0) (λi=>l.length - i) (λi=>[(8,.d (.int .i64 i))]) (λH _=>H))]) Tryz.func112 rfl ⟨_,_,rfl,rfl⟩ (zt zz) ?_;apply @z7 _ (∃(x0:Nat),iU x0 l n/\((IT Hy l=IT Hy l/\Gg 61 [] [IA 3 0]=Gg 61 [] [IA 3 0]/\(↑(IR (IT Hy l)):Int)=(↑(IR (IT Hy l)):Int)/\(0:Int)=(x0:Int)/\IN)/\(IT H9 (Hk s)=IT H9 (Hk s)/\IT H8 (Hg s)=IT H8 (Hg s)/\IT Hy (Hi s)=IT Hy (Hi s)/\IT Hx (Hh s)=IT Hx (Hh s)/\IT H7 (Hn s)=IT H7 (Hn s)/\IN)/\(e=e/\IN)/\es=es/\(n=n/\IN)/\IN)/\∀(x:Nat),iU x l n->(decide ((x:Int)<(↑(IR (IT Hy l)):Int))=true->((0:Int)<=(x:Int)/\(IT Hy l)[IJ (x:Int)]? = some (Zq l x))/\HY Tryz.prog G 61 [IH (Zq l x),.ptr 3 0] (wc s e es n) λ(rs:IU D) (H':IU Box)=>∃(b:Bool),rs=[IL b]/\∃(l_1:IU D)(l_2:IU D)(l_3:IU D)(l_4:IU D)(l_5:IU D)(n_1:Int)(es_1:IU (D×D)),∃(n_2:Int),H'=wN l_1 l_2 l_3 l_4 l_5 n_1 es_1 n_2/\(b=true->[IP .i64 (x:Int)]=[IP .i64 (yg (λ(z:Pe)=>!y3 (Dx z) n) l 0)]/\wN l_1 l_2 l_3 l_4 l_5 n_1 es_1 n_2=wc s e es n)/\(b=false->∃(y:Nat),iU y l n/\IR l - y<IR l - x/\(IT Hy l=IT Hy l/\Gg 61 [] [IA 3 0]=Gg 61 [] [IA 3 0]/\(↑(IR (IT Hy l)):Int)=(↑(IR (IT Hy l)):Int)/\Hr .i64 ((x:Int)+1)=(y:Int)/\IN)/\(l_1=IT H9 (Hk s)/\l_2=IT H8 (Hg s)/\l_3=IT Hy (Hi s)/\l_4=IT Hx (Hh s)/\l_5=IT H7 (Hn s)/\IN)/\(n_1=e/\IN)/\es_1=es/\(n_2=n/\IN)/\IN))/\(decide ((x:Int)<(↑(IR (IT Hy l)):Int))=false->[IP .i64 (-1)]=[IP .i64 (yg (λ(z:Pe)=>!y3 (Dx z) n) l 0)]/\wc s e es n=wc s e es n))
 ·kernel_rfl
 delta iU Zq wc wN qr og uc tJ;refine⟨0,⟨GD _,rfl⟩,by and_intros<;>first|rfl|trivial,λx hx=>⟨λhlt=>?_,λhge=>?_⟩⟩
 ·simp only[H4,HS]at hlt;obtain⟨z,hz,hm⟩:=zw (l:=l) (x:=x) (by omega);have hx2:=hx.2;rw[ye hz,yg]at hx2;rw[HF,pu hz];refine⟨⟨by omega,nN hz⟩,(Ij s e es n z (hq z hm)).mono ?_⟩;rintro rs H' ⟨rfl,rfl⟩;have e1:Hr .i64 ((x:Int)+1)=((x+1:Nat):Int):=by rw[zx (by omega) (by omega)];rfl
  refine⟨_,rfl,_,_,_,_,_,_,_,_,rfl,λhb=>⟨?_,rfl⟩,λhb=>⟨x+1,⟨by omega,?_⟩,by omega,by and_intros<;>first|rfl|trivial|exact e1⟩⟩
  ·rw[Hv hb]at hx2;rw[hx2]
  ·rw[IE (by rw[hb];decide)]at hx2;exact hx2
 ·simp only[H4,HH]at hge;have hx2:=hx.2;rw[Fx (by omega),yg]at hx2;exact⟨by rw[hx2],rfl⟩
theorem JU (s:Sc) (e:Int) (es:IU (D×D)) (n:Int) (l:IU Pe) (hl:l.length<4611686018427387904) (hq:∀z∈l,z.away.length<4611686018427387904):HY Tryz.prog G 65 [.d (.sl (l.map Hy)),.clo 61 [] [.ptr 3 0]] (RN s e es n) (λrs H'=>rs=[.bool (l.any λz=>!y3 z.away n)]/\H'=RN s e es n):=by
 refine zB Tryz.func65 rfl ⟨_,_,rfl,rfl⟩ ?_;apply @z7 _ (HY Tryz.prog G 112 [IH (.sl (IT Hy l)),.clo 61 [] [IA 3 0]] (wc s e es n) λ(rs:IU D) (H':IU Box)=>∃(n_1:Int),rs=[IP .i64 n_1]/\∃(l_1:IU D)(l_2:IU D)(l_3:IU D)(l_4:IU D)(l_5:IU D)(n_2:Int)(es_1:IU (D×D)),∃(n_3:Int),H'=wN l_1 l_2 l_3 l_4 l_5 n_2 es_1 n_3/\[IL (decide (n_1>=0))]=[IL (Fk l λ(z:Pe)=>!y3 (Dx z) n)]/\wN l_1 l_2 l_3 l_4 l_5 n_2 es_1 n_3=wc s e es n)
 ·kernel_rfl
 delta wc wN qr og uc tJ;refine(LQ (G:=G) s e es n l hl hq).mono ?_;rintro rs H' ⟨rfl,rfl⟩;refine⟨_,rfl,_,_,_,_,_,_,_,_,rfl,?_,rfl⟩;rw[tK]
def iT (a:Nat) (b:IU Gr):Prop:=a<=IR b/\yg (λ(z:Gr)=>!xw z) (GM a b) a=yg (λ(z:Gr)=>!xw z) b 0
def Zp (a:IU Gr) (b:Nat):D:=zr [HI,HX .i64] (IT Hx a) (IJ (b:Int))
theorem LP (l:IU Gr) (hl:l.length<4611686018427387904):IK Tryz.prog G 113 [.sl (l.map Hx),.fn 62] (· = [.int .i64 (yg (λz=>!xw z) l 0)]):=by
 refine zu (LL [(2,ze (α:=Nat) Tryz.prog G L0 0 (z8 (z6 Tryz.f113) 0) [0,1,7] (λi=>i<=l.length/\yg (λz=>!xw z) (l.drop i) i=yg (λz=>!xw z) l 0) (λi=>l.length - i) (λi=>[(8,.d (.int .i64 i))]) (λH _=>H))]) Tryz.func113 ⟨_,rfl⟩ (zt zz) ?_;apply @z7 _ (∃(x0:Nat),iT x0 l/\((IT Hx l=IT Hx l/\IH (.fn 62)=IH (.fn 62)/\(↑(IR (IT Hx l)):Int)=(↑(IR (IT Hx l)):Int)/\(0:Int)=(x0:Int)/\IN)/\IN)/\∀(x:Nat),iT x l->(decide ((x:Int)<(↑(IR (IT Hx l)):Int))=true->((0:Int)<=(x:Int)/\(IT Hx l)[IJ (x:Int)]? = some (Zp l x))/\IK Tryz.prog G 62 [Zp l x] λ(rs:IU D)=>∃(b:Bool),rs=[IL b]/\(b=true->[IP .i64 (x:Int)]=[IP .i64 (yg (λ(z:Gr)=>!xw z) l 0)])/\(b=false->∃(y:Nat),iT y l/\IR l - y<IR l - x/\(IT Hx l=IT Hx l/\IH (.fn 62)=IH (.fn 62)/\(↑(IR (IT Hx l)):Int)=(↑(IR (IT Hx l)):Int)/\Hr .i64 ((x:Int)+1)=(y:Int)/\IN)/\IN))/\(decide ((x:Int)<(↑(IR (IT Hx l)):Int))=false->[IP .i64 (-1)]=[IP .i64 (yg (λ(z:Gr)=>!xw z) l 0)]))
 ·kernel_rfl
 delta iT Zp;refine⟨0,⟨GD _,rfl⟩,by and_intros<;>first|rfl|trivial,λx hx=>⟨λhlt=>?_,λhge=>?_⟩⟩
 ·simp only[H4,HS]at hlt;obtain⟨z,hz,hm⟩:=zw (l:=l) (x:=x) (by omega);have hx2:=hx.2;rw[ye hz,yg]at hx2;rw[HF,nM hz];have e1:Hr .i64 ((x:Int)+1)=((x+1:Nat):Int):=by rw[zx (by omega) (by omega)];rfl
  refine⟨⟨by omega,ke hz⟩,(Ii z).use ⟨_,rfl,λhb=>?_,λhb=>⟨x+1,⟨by omega,?_⟩,by omega,by and_intros<;>first|rfl|trivial|exact e1⟩⟩⟩
  ·rw[Hv hb]at hx2;rw[hx2]
  ·rw[IE (by rw[hb];decide)]at hx2;exact hx2
 ·simp only[H4,HH]at hge;have hx2:=hx.2;rw[Fx (by omega),yg]at hx2;rw[hx2]
theorem JT (l:IU Gr) (hl:l.length<4611686018427387904):IK Tryz.prog G 66 [.sl (l.map Hx),.fn 62] (· = [.bool (l.any λz=>!xw z)]):=by
 refine zq Tryz.func66 ⟨_,rfl⟩ ?_;apply @z7 _ (IK Tryz.prog G 113 [II (IT Hx l),.fn 62] λ(rs:IU D)=>∃(n:Int),rs=[IP .i64 n]/\[IL (decide (n>=0))]=[IL (Fk l λ(z:Gr)=>!xw z)])
 ·kernel_rfl
 refine(LP (G:=G) l hl).use ⟨_,rfl,?_⟩;rw[tK]
def lS (a:Nat) (b:IU Le) (c:Int) (d:Int):Prop:=a<=IR b/\yg (λ(z:Le)=>!yX c d z) (GM a b) a=yg (λ(z:Le)=>!yX c d z) b 0
def h114Lq3:AV:=Gg 63 [] [IA 4 0,.ptr 5 0]
def h114Lq2:Prop:=h114Lq3=h114Lq3
def iS (a:IU Le) (b:Nat):D:=zr [HI,HK,HK] (IT H7 a) (IJ (b:Int))
def oe (a:IU D) (b:IU D) (c:IU D) (d:IU D) (e:IU D) (f:Int) (g:IU (D×D)) (h:Int) (i:Int) (j:Int):IU Box:=[Hl 28 [.d (.sl a),.d (.sl b),.d (.sl c),.d (.sl d),.d (.sl e)],.cells 43 (uc f),.map g,.cells 3 (uc h),.cells 3 (uc i),.cells 3 (uc j)]
theorem LO (s:Sc) (e:Int) (es:IU (D×D)) (n p g:Int) (l:IU Le) (hl:l.length<4611686018427387904) (hq:∀z∈l,z.who.length<4611686018427387904/\z.groups.length<4611686018427387904):HY Tryz.prog G 114 [.d (.sl (l.map H7)),.clo 63 [] [.ptr 4 0,.ptr 5 0]] (MH s e es n p g) (λrs H'=>rs=[.int .i64 (yg (λz=>!yX p g z) l 0)]/\H'=MH s e es n p g):=by
 refine zZ (LL [(2,ze (α:=Nat) Tryz.prog G L0 6 (z8 (z6 Tryz.f114) 0) [0,1,7] (λi=>i<=l.length/\yg (λz=>!yX p g z) (l.drop i) i=yg (λz=>!yX p g z) l 0) (λi=>l.length - i) (λi=>[(8,.d (.int .i64 i))]) (λH _=>H))]) Tryz.func114 rfl ⟨_,_,rfl,rfl⟩ (zt zz) ?_;apply @z7 _ (∃(x0:Nat),lS x0 l p g/\((IT H7 l=IT H7 l/\h114Lq2/\(↑(IR (IT H7 l)):Int)=(↑(IR (IT H7 l)):Int)/\(0:Int)=(x0:Int)/\IN)/\(IT H9 (Hk s)=IT H9 (Hk s)/\IT H8 (Hg s)=IT H8 (Hg s)/\IT Hy (Hi s)=IT Hy (Hi s)/\IT Hx (Hh s)=IT Hx (Hh s)/\IT H7 (Hn s)=IT H7 (Hn s)/\IN)/\(e=e/\IN)/\es=es/\(n=n/\IN)/\(p=p/\IN)/\(g=g/\IN)/\IN)/\∀(x:Nat),lS x l p g->(decide ((x:Int)<(↑(IR (IT H7 l)):Int))=true->((0:Int)<=(x:Int)/\(IT H7 l)[IJ (x:Int)]? = some (iS l x))/\HY Tryz.prog G 63 [IH (iS l x),.ptr 4 0,.ptr 5 0] (tJ s e es n p g) λ(rs:IU D) (H' : IU Box)=>∃(b:Bool),rs=[IL b]/\∃(l_1:IU D)(l_2:IU D)(l_3:IU D)(l_4:IU D)(l_5:IU D)(n_1:Int)(es_1:IU (D×D)),∃(n_2:Int)(n_3:Int)(n_4:Int),H'=oe l_1 l_2 l_3 l_4 l_5 n_1 es_1 n_2 n_3 n_4/\(b=true->[IP .i64 (x:Int)]=[IP .i64 (yg (λ(z:Le)=>!yX p g z) l 0)]/\oe l_1 l_2 l_3 l_4 l_5 n_1 es_1 n_2 n_3 n_4=tJ s e es n p g)/\(b=false->∃(y:Nat),lS y l p g/\IR l - y<IR l - x/\(IT H7 l=IT H7 l/\h114Lq2/\(↑(IR (IT H7 l)):Int)=(↑(IR (IT H7 l)):Int)/\Hr .i64 ((x:Int)+1)=(y:Int)/\IN)/\(l_1=IT H9 (Hk s)/\l_2=IT H8 (Hg s)/\l_3=IT Hy (Hi s)/\l_4=IT Hx (Hh s)/\l_5=IT H7 (Hn s)/\IN)/\(n_1=e/\IN)/\es_1=es/\(n_2=n/\IN)/\(n_3=p/\IN)/\(n_4=g/\IN)/\IN))/\(decide ((x:Int)<(↑(IR (IT H7 l)):Int))=false->[IP .i64 (-1)]=[IP .i64 (yg (λ(z:Le)=>!yX p g z) l 0)]/\tJ s e es n p g=tJ s e es n p g))
 ·kernel_rfl
 delta lS h114Lq2 h114Lq3 iS tJ uc oe;refine⟨0,⟨GD _,rfl⟩,by and_intros<;>first|rfl|trivial,λx hx=>⟨λhlt=>?_,λhge=>?_⟩⟩
 ·simp only[H4,HS]at hlt;obtain⟨z,hz,hm⟩:=zw (l:=l) (x:=x) (by omega);have hx2:=hx.2;rw[ye hz,yg]at hx2;rw[HF,uO hz];refine⟨⟨by omega,uN hz⟩,(Ih s e es n p g z (hq z hm).1 (hq z hm).2).mono ?_⟩;rintro rs H' ⟨rfl,rfl⟩;have e1:Hr .i64 ((x:Int)+1)=((x+1:Nat):Int):=by rw[zx (by omega) (by omega)];rfl
  refine⟨_,rfl,_,_,_,_,_,_,_,_,_,_,rfl,λhb=>⟨?_,rfl⟩,λhb=>⟨x+1,⟨by omega,?_⟩,by omega,by and_intros<;>first|rfl|trivial|exact e1⟩⟩
  ·rw[Hv hb]at hx2;rw[hx2]
  ·rw[IE (by rw[hb];decide)]at hx2;exact hx2
 ·simp only[H4,HH]at hge;have hx2:=hx.2;rw[Fx (by omega),yg]at hx2;exact⟨by rw[hx2],rfl⟩
theorem JS (s:Sc) (e:Int) (es:IU (D×D)) (n p g:Int) (l:IU Le) (hl:l.length<4611686018427387904) (hq:∀z∈l,z.who.length<4611686018427387904/\z.groups.length<4611686018427387904):HY Tryz.prog G 67 [.d (.sl (l.map H7)),.clo 63 [] [.ptr 4 0,.ptr 5 0]] (MH s e es n p g) (λrs H'=>rs=[.bool (l.any λz=>!yX p g z)]/\H'=MH s e es n p g):=by
 refine zB Tryz.func67 rfl ⟨_,_,rfl,rfl⟩ ?_;apply @z7 _ (HY Tryz.prog G 114 [IH (.sl (IT H7 l)),h114Lq3] (tJ s e es n p g) λ(rs:IU D) (H':IU Box)=>∃(n_1:Int),rs=[IP .i64 n_1]/\∃(l_1:IU D)(l_2:IU D)(l_3:IU D)(l_4:IU D)(l_5:IU D)(n_2:Int)(es_1:IU (D×D)),∃(n_3:Int)(n_4:Int)(n_5:Int),H'=oe l_1 l_2 l_3 l_4 l_5 n_2 es_1 n_3 n_4 n_5/\[IL (decide (n_1>=0))]=[IL (Fk l λ(z:Le)=>!yX p g z)]/\oe l_1 l_2 l_3 l_4 l_5 n_2 es_1 n_3 n_4 n_5=tJ s e es n p g)
 ·kernel_rfl
 delta h114Lq3 lS h114Lq2 iS tJ uc oe;refine(LO (G:=G) s e es n p g l hl hq).mono ?_;rintro rs H' ⟨rfl,rfl⟩;refine⟨_,rfl,_,_,_,_,_,_,_,_,_,_,rfl,?_,rfl⟩;rw[tK]
end
section
variable {G:Nat->IQ (IU D)}
theorem LN (b:Bool) (X:IU Box) (s:Sc):∃(rs:IU D) (H':IU Box),(b=true->H'=X)/\(b=false->∃m,H'=N7 s m):=by obtain⟨rs,H',_,h⟩:=Ra b X s;exact⟨rs,H',h⟩
def h94Kq23:IU AV:=[G2 4]
def h94Kq2 (a:Sc):Box:=Hl 28 [.d (.sl (IT H9 (Hk a))),.d (.sl (IT H8 (Hg a))),.d (.sl (IT Hy (Hi a))),.d (.sl (IT Hx (Hh a))),.d (.sl (IT H7 (Hn a)))]
def h94Kq1:Box:=Hl 43 [.d (.int .i64 0)]
def h94Kq18:Box:=Hl 122 [.map 2]
def h94Kq3:IU AV:=[IM,.ptr 0 0,.ptr 1 0,.any,.ptr 3 0,.any,.any,.any,.any,.any,.any,.any,.any,.any,.any,.any,.any,.any,.any,.any,.any,.any,.any,.any,.any,.any,.any,.any,.any,.any,.any,.any,.any,.any,.any,.any,.any,.any,.any,.any,.any,.any,.any,.any,.any,.any,.any,.any,.any,.any,.any,.any,.any,.any,.any,.any,.any,.any,.any,.any,.any,.any,.any,.any,.any,.any,.any,.any,.any,.any,.any,.any,.any,.any,.any,.any,.any,.any,.any,.any,.any,.any,.any,.any,.any,.any,.any,.any,.any,.any,.any,.any,.any,.any,.any,.any,.any,.any,.any,.any,.any,.any,.any,.any,.any,.any,.any,.any,.any,.any,.any,.any,.any,.any,.any,.any,.any,.any,.any,.any,.any,.any,.any,.any,.any,.any,.any,.any,.any,.any,.any,.any,.any,.any,.any,.any]
def h94Kq17:Box:=Gz h94Kq3 (zY c26) (zk c26) (zX c26) none GY
def h94Kq22:IU Box:=[h94Kq18,h94Kq17]
def uF (a:Sc):IU Box:=h94Kq2 a::h94Kq1::Eh []::h94Kq22
def oc (a:IU D) (b:IU D) (c:IU D) (d:IU D) (e:IU D):Box:=Hl 28 [.d (.sl a),.d (.sl b),.d (.sl c),.d (.sl d),.d (.sl e)]
def oa (a:IU D) (b:IU D) (c:IU D) (d:IU D) (e:IU D) (f:Int) (g:IU (D×D)) (h:IQ He) (i:HJ):IU Box:=[oc a b c d e,.cells 43 [.d (.int .i64 f)],.map g,h94Kq18,.loop h94Kq3 (zY c26) (zk c26) (zX c26) h i]
def iR (a:Sc) (b:Int):IU Box:=h94Kq2 a::h94Kq1::Eh (xm (zf a b))::h94Kq22
def Zo (a:Sc) (b:IU Nm):IU Box:=[h94Kq2 a,.cells 43 [.d (.int .i64 1)],.map (xm b),h94Kq18,.loop h94Kq3 (zY c26) (zk c26) (zX c26) (some FJ) Dn]
def iQ (a:Sc) (b:Int) (c:IU D) (d:IU D) (e:IU D) (f:IU D) (g:IU D) (h:Int) (i:IU (D×D)) (j:IQ He) (k:HJ):Prop:=(za (zf a b)=true->oa c d e f g h i j k=iR a b)/\(za (zf a b)=false->∃(m:IU Nm),oa c d e f g h i j k=Zo a m)
def qq (a:IU D) (b:IU Box) (c:Sc) (d:Int):Prop:=a=[]/\∃(l:IU D)(l_1:IU D)(l_2:IU D)(l_3:IU D)(l_4:IU D)(n:Int)(es:IU (D×D)),∃(pend:IQ He)(st:HJ),b=oa l l_1 l_2 l_3 l_4 n es pend st/\iQ c d l l_1 l_2 l_3 l_4 n es pend st
def h94Kq12:Prop:=(7:Int)=7/\(0:Int)<=7/\(7:Int)<=1000000000/\(↑0:Int)*(7:Int)<=281474976710656
def h94Kq10:AV:=IH (.str (Gx (Gy (Gu #[(100:UInt8),(97:UInt8),(121:UInt8)]))))
def h94Kq20:AV:=Gg 146 [] [IA 6 0,.ptr 5 0]
def h94Kq24:IU Box:=[Hl 9 [h94Kq10],.cells 173 h94Kq23]
def Zn (a:Nat->IQ (IU D)) (b:Sc):Prop:=PMaker Tryz.prog a 106 (h94Kq10::h94Kq23) (uF b) h94Kq20 h94Kq24
def h94Kq21:IU D:=[Hd [],.agg [],.agg [],.agg [],.agg [],.agg [],.agg []]
def iP (a:IU D) (b:IU Box) (c:Sc) (d:Int):Prop:=a=[]/\∃(l:IU D)(l_1:IU D)(l_2:IU D)(l_3:IU D)(l_4:IU D)(n:Int)(es:IU (D×D)),∃(pend:IQ He)(st:HJ)(s:IU UInt8),b=[oc l l_1 l_2 l_3 l_4,.cells 43 [.d (.int .i64 n)],.map es,h94Kq18,.loop h94Kq3 (zY c26) (zk c26) (zX c26) pend st,.cells 9 [.d (.str s)],.cells 173 h94Kq23]/\iQ c d l l_1 l_2 l_3 l_4 n es pend st
def Zm (a:Nat->IQ (IU D)) (b:Sc) (c:Int):Prop:=HY Tryz.prog a 105 [IH (.sl h94Kq21),.nilf,h94Kq20] (h94Kq2 b::h94Kq1::Eh []::h94Kq18::h94Kq17::h94Kq24) λ(rs:IU D) (H':IU Box)=>iP rs H' b c
def iO (a:Nat->IQ (IU D)) (b:Sc) (c:Int):Prop:=h94Kq12/\Zn a b/\Zm a b c
def h94Kq4:Prop:=(8:Int)=8/\(0:Int)<=8/\(8:Int)<=1000000000/\(↑0:Int)*(8:Int)<=281474976710656
def h94Kq8:AV:=IH (.str (Gx (Gy (Gu #[(104:UInt8),(111:UInt8),(117:UInt8),(115:UInt8),(101:UInt8)]))))
def iN (a:Nat->IQ (IU D)) (b:Sc):Prop:=PMaker Tryz.prog a 106 (h94Kq8::h94Kq23) (uF b) h94Kq20 [Hl 9 [h94Kq8],.cells 173 h94Kq23]
def iM (a:Nat->IQ (IU D)) (b:Sc) (c:Int):Prop:=HY Tryz.prog a 105 [IH (.sl (Hd []::h94Kq21)),.nilf,h94Kq20] [h94Kq2 b,h94Kq1,.map [],h94Kq18,h94Kq17,.cells 9 [h94Kq8],.cells 173 h94Kq23] λ(rs:IU D) (H':IU Box)=>iP rs H' b c
def iL (a:Nat->IQ (IU D)) (b:Sc) (c:Int):Prop:=h94Kq4/\iN a b/\iM a b c
theorem h94K (hG:∃m,G 4=some [.int .i64 m]) (s:Sc) (k:Int) (hs:s.Fits) (h1:1<=k) (h5:k<=5):HY Tryz.prog G 94 [.yld 4,.iptr [.int .i64 k],.iptr [.sl (s.slots.map H9),.sl (s.rooms.map H8),.sl (s.people.map Hy),.sl (s.groups.map Hx),.sl (s.lessons.map H7)]] (hK s []) (λ_ H'=>(za (zf s k)=true->H'=hK s (zf s k))/\(za (zf s k)=false->∃m,H'=N7 s m)):=by
 refine zB Tryz.func94 rfl (LN _ _ _) ?_;apply @z7 _ (((k==1)=true->HY Tryz.prog G 95 (IH (.sl (IT H7 (Hn s)))::IH (.fn 96)::h94Kq23) (uF s) λ(rs:IU D) (H':IU Box)=>qq rs H' s k)/\((k==1)=false->((k==2)=true->HY Tryz.prog G 97 (IH (.sl (IT H9 (Hk s)))::IH (.fn 98)::h94Kq23) (uF s) λ(rs:IU D) (H':IU Box)=>qq rs H' s k)/\((k==2)=false->((k==3)=true->HY Tryz.prog G 99 (IH (.sl (IT H8 (Hg s)))::IH (.fn 100)::h94Kq23) (uF s) λ(rs:IU D) (H':IU Box)=>qq rs H' s k)/\((k==3)=false->((k==4)=true->HY Tryz.prog G 101 (IH (.sl (IT Hy (Hi s)))::IH (.fn 102)::h94Kq23) (uF s) λ(rs:IU D) (H':IU Box)=>qq rs H' s k)/\((k==4)=false->((k==5)=true->HY Tryz.prog G 103 (IH (.sl (IT Hx (Hh s)))::IH (.fn 104)::h94Kq23) (uF s) λ(rs:IU D) (H':IU Box)=>qq rs H' s k)/\((k==5)=false->((k==6)=true->iO G s k/\iO G s k/\Zn G s/\h94Kq12/\Zm G s k)/\((k==6)=false->((k==7)=true->iL G s k/\iL G s k/\iN G s/\h94Kq4/\iM G s k)/\((k==7)=false->(za (zf s k)=true->uF s=iR s k)/\(za (zf s k)=false->∃(m:IU Nm),uF s=Zo s m)))))))))
 ·kernel_rfl
 delta h94Kq23 uF h94Kq2 h94Kq1 h94Kq22 h94Kq18 h94Kq17 h94Kq3 qq oa oc iQ iR Zo iO h94Kq12 Zn h94Kq10 h94Kq20 h94Kq24 Zm h94Kq21 iP iL h94Kq4 iN h94Kq8 iM;have c1:k=1->zf s k=s.lessons.map (·.name):=λe=>by subst e;simp[zf]
 have c2:k=2->zf s k=s.slots.map (·.name):=λe=>by subst e;simp[zf]
 have c3:k=3->zf s k=s.rooms.map (·.name):=λe=>by subst e;simp[zf]
 have c4:k=4->zf s k=s.people.map (·.name):=λe=>by subst e;simp[zf]
 have c5:k=5->zf s k=s.groups.map (·.name):=λe=>by subst e;simp[zf]
 refine⟨λe=>?_,λn1=>⟨λe=>?_,λn2=>⟨λe=>?_,λn3=>⟨λe=>?_,λn4=>⟨λe=>?_,λn5=>?_⟩⟩⟩⟩⟩
 ·have e':k=1:=by simpa using e
  rw[c1 e'];refine(JY hG s s.lessons hs.lessons).mono ?_;intro rs H' hh;obtain⟨rfl,hA,hB⟩:=hh;cases hb:za (s.lessons.map (·.name))with
  |true =>
   obtain rfl:=hA hb;exact⟨rfl,_,_,_,_,_,_,_,_,_,rfl,λ_=>rfl,λh=>Hu h (by decide)⟩
  |false =>
   obtain⟨m,rfl⟩:=hB hb;exact⟨rfl,_,_,_,_,_,_,_,_,_,rfl,λh=>Hu h (by decide),λ_=>⟨m,rfl⟩⟩
 ·have e':k=2:=by simpa using e
  rw[c2 e'];refine(JX hG s s.slots hs.slots).mono ?_;intro rs H' hh;obtain⟨rfl,hA,hB⟩:=hh;cases hb:za (s.slots.map (·.name))with
  |true =>
   obtain rfl:=hA hb;exact⟨rfl,_,_,_,_,_,_,_,_,_,rfl,λ_=>rfl,λh=>Hu h (by decide)⟩
  |false =>
   obtain⟨m,rfl⟩:=hB hb;exact⟨rfl,_,_,_,_,_,_,_,_,_,rfl,λh=>Hu h (by decide),λ_=>⟨m,rfl⟩⟩
 ·have e':k=3:=by simpa using e
  rw[c3 e'];refine(JW hG s s.rooms hs.rooms).mono ?_;intro rs H' hh;obtain⟨rfl,hA,hB⟩:=hh;cases hb:za (s.rooms.map (·.name))with
  |true =>
   obtain rfl:=hA hb;exact⟨rfl,_,_,_,_,_,_,_,_,_,rfl,λ_=>rfl,λh=>Hu h (by decide)⟩
  |false =>
   obtain⟨m,rfl⟩:=hB hb;exact⟨rfl,_,_,_,_,_,_,_,_,_,rfl,λh=>Hu h (by decide),λ_=>⟨m,rfl⟩⟩
 ·have e':k=4:=by simpa using e
  rw[c4 e'];refine(LU hG s s.people hs.people).mono ?_;intro rs H' hh;obtain⟨rfl,hA,hB⟩:=hh;cases hb:za (s.people.map (·.name))with
  |true =>
   obtain rfl:=hA hb;exact⟨rfl,_,_,_,_,_,_,_,_,_,rfl,λ_=>rfl,λh=>Hu h (by decide)⟩
  |false =>
   obtain⟨m,rfl⟩:=hB hb;exact⟨rfl,_,_,_,_,_,_,_,_,_,rfl,λh=>Hu h (by decide),λ_=>⟨m,rfl⟩⟩
 ·have e':k=5:=by simpa using e
  rw[c5 e'];refine(LS hG s s.groups hs.groups).mono ?_;intro rs H' hh;obtain⟨rfl,hA,hB⟩:=hh;cases hb:za (s.groups.map (·.name))with
  |true =>
   obtain rfl:=hA hb;exact⟨rfl,_,_,_,_,_,_,_,_,_,rfl,λ_=>rfl,λh=>Hu h (by decide)⟩
  |false =>
   obtain⟨m,rfl⟩:=hB hb;exact⟨rfl,_,_,_,_,_,_,_,_,_,rfl,λh=>Hu h (by decide),λ_=>⟨m,rfl⟩⟩
 ·exfalso;have n1:k≠1:=by simpa using n1
  have n2:k≠2:=by simpa using n2
  have n3:k≠3:=by simpa using n3
  have n4:k≠4:=by simpa using n4
  have n5:k≠5:=by simpa using n5
  omega
def qZ (l:IU Sl):IU (D×D):=l.map λx=>(.agg [.int .i64 x.day,.int .i64 x.hour],.bool true)
theorem OY (a b:Int) (l:IU Sl):((qZ l).all λkv=>sameKind (.agg [.int .i64 a,.int .i64 b]) kv.1&&Ft .bool kv.2)=true:=by rw[G3];intro d hd;obtain⟨t,_,rfl⟩:=Gd.1 hd;rfl
theorem cH (a b:Int):∀l:IU Sl,zT (qZ l) (.agg [.int .i64 a,.int .i64 b])=if(l.map yB).contains (a,b)then some (.bool true)else none
 |[]=>rfl
 |x::l=>by
  have ih:=cH a b l;unfold zT at *;unfold qZ at *;rw[Gb,EQ,Gb,BZ];have hb:beqD (.agg [.int .i64 a,.int .i64 b]) (.agg [.int .i64 x.day,.int .i64 x.hour])=((a,b)==yB x):=by show(a==x.day&&b==x.hour)=((a,b)==(x.day,x.hour));rfl
  rw[hb];cases ((a,b)==yB x)with
  |true=>rfl
  |false=>rw[FD];exact ih
theorem XL (a b:Int):∀l:IU Sl,(l.map yB).contains (a,b)=false->∀x:Sl,yB x=(a,b)->updD (qZ l) (.agg [.int .i64 a,.int .i64 b]) (.bool true)=qZ (l++[x])
 |[],_,x,hx=>by cases hx;rfl
 |y::l,h,x,hx=>by rw[Gb,BZ,E3]at h;have ih:=XL a b l h.2 x hx;have hb:beqD (.agg [.int .i64 a,.int .i64 b]) (.agg [.int .i64 y.day,.int .i64 y.hour])=false:=h.1;show(if beqD _ _=true then _ else _)=_;rw[hb];show(_ ,_)::updD (qZ l) _ _=_;rw[ih];rfl
def tI (l:IU Sl):Bool:=l.all sW&&decide ((l.map yB).Nodup)
theorem XK {l:IU Sl}{x:Nat}{z:Sl}(h:l[x]? = some z) (hp:tI (l.take x)=true):tI (l.take (x+1))=(sW z&& !((l.take x).map yB).contains (z.day,z.hour)):=by
 unfold tI at *;rw[HC]at hp;rw[Ge];have hk:(l.map yB)[x]? = some (yB z):=by rw[G5,h];rfl
 simp only[HC,HS,Fe]at hp ⊢;rw[BM,u6 hk,←BM,yr h,Fb];simp only[HC,D8,zyQ,zyb];have:(IT yB (HZ x l)).contains (z.day,z.hour)=false↔yB z∉IT yB (HZ x l):=by rw[←C6,Dt];rfl
 rw[this];constructor
 ·rintro⟨⟨_,h1⟩,_,h2⟩;exact⟨h1,h2⟩
 ·rintro⟨h1,h2⟩;exact⟨⟨hp.1,h1⟩,hp.2,h2⟩
theorem Uy {l:IU Sl}{x:Nat}(h:tI l=true):tI (l.take x)=true:=by unfold tI at *;simp only[HC,HS,G3]at h ⊢;exact⟨λn hn=>h.1 n (De hn),h.2.sublist ((B0 _ _).map _)⟩
theorem lR {α:Type}(p:α->Bool) (l:IU α):(l.any λz=>!p z) = !l.all p:=by
 induction l with
 |nil=>rfl
 |cons a l ih=>rw[E5,D8,ih,BI]
theorem NO {s:Sc}(h:vP s=false):[IP .i64 1]=[IP .i64 (yI s)]:=by unfold yI;rw[Hv h]
theorem XJ {s:Sc}{k:Nat}(h:za (zf s ((k:Int)+1))=false) (hk:k<5):vP s=false:=by
 have:x8 s 5=false:=by unfold x8;rw[IU.all_eq_false];exact⟨k,by simpa using hk,by rw[h];decide⟩
 unfold vP;rw[this];rfl
theorem d8 {s:Sc}{k:Nat}(h:x8 s k=true) (h2:za (zf s ((k:Int)+1))=true):x8 s (k+1)=true:=by unfold x8 at *;rw[IU.range_succ,Fb,h];simp[h2]
theorem eW (l:IU Sl):uM l=(tI l&& !l.isEmpty):=rfl
theorem RZ {s:Sc}(h:tI s.slots=false):vP s=false:=by unfold vP;rw[eW,h];simp
theorem RY {s:Sc}(h:(s.slots.length:Int)=0∨(s.rooms.length:Int)=0):vP s=false:=by
 unfold vP;rw[eW];rcases h with h|h
 ·have:s.slots=[]:=Df (by omega);rw[this];simp
 ·have:s.rooms=[]:=Df (by omega);rw[this];simp
def Zl (a:Nat) (b:Sc):Prop:=(1<=a/\a<=6)/\x8 b (a - 1)=true
def vV (a:Sc):IU D:=IT H9 (Hk a)
def eV (a:Sc):IU D:=IT H8 (Hg a)
def mj (a:Sc):IU D:=IT Hy (Hi a)
def mi (a:Sc):IU D:=IT Hx (Hh a)
def Zk (a:Sc):Prop:=vV a=vV a/\eV a=eV a/\mj a=mj a/\mi a=mi a/\IT H7 (Hn a)=IT H7 (Hn a)/\IN
def Zj (a:Sc):IU D:=[II (vV a),.sl (eV a),.sl (mj a),.sl (mi a),.sl (IT H7 (Hn a))]
def OX (a:Nat) (b:Nat):Prop:=Hr .i64 ((a:Int)+1)=(b:Int)/\IN
def Ux (a:Sc) (b:Nat) (c:IU D) (d:IU D) (e:IU D) (f:IU D) (g:IU D) (h:Int):Prop:= ∃(y:Nat),Zl y a/\6 - y<6 - b/\(IA 0 0=IA 0 0/\IA 1 0=IA 1 0/\OX b y)/\(c=vV a/\d=eV a/\e=mj a/\f=mi a/\g=IT H7 (Hn a)/\IN)/\(h=0/\IN)/\IN
def eU (a:Sc):IU D:=[IP .i64 (yI a)]
def Sf (a:Nat) (b:Sc):Prop:=a<=IR (Hk b)/\tI (HZ a (Hk b))=true
def lQ (a:Sc):Int:=(↑(IR (vV a)):Int)
def jQ (a:Nat) (b:Sc):IU (D×D):=qZ (HZ a (Hk b))
def Se (a:Sc) (b:Nat):D:=Hd (G6 [(λ(x:Sh×Nat)=>match x with|(sh,j)=>GP sh (IB (z1 (IT H9 (Hk a)) (IJ (b:Int)) j) default)) (HX .i64,0+1+1),(λ(x:Sh×Nat)=>match x with|(sh,j)=>GP sh (IB (z1 (IT H9 (Hk a)) (IJ (b:Int)) j) default)) (HX .i64,0+1)])
def Uw (a:Sc) (b:Nat) (c:D×D):Bool:=sameKind (Se a b) (Hw c)
def mh (a:IU D) (b:Bool):Prop:=a=[IL b]
def Uv (a:Nat) (b:Sc) (c:Bool) (d:Bool):Bool:=bif bif E8 (IB (zT (jQ a b) (Se b a)) (IL false))then true else !c then true else !d
def Zi (a:Sc):Prop:=[IP .i64 1]=eU a
def Uu (a:Sc):Bool:=bif lQ a==0 then true else(↑(IR (eV a)):Int)==0
def XI (a:Int):IU AV:=[IH (.int .i64 a)]
def OW (a:IU D) (b:IU D) (c:IU D) (d:IU D) (e:IU D) (f:Int) (g:IU (D×D)) (h:Int):IU Box:=[oc a b c d e,.cells 43 (XI f),.map g,.cells 3 (XI h)]
def Ut (a:IU Box) (b:IU D) (c:IU D) (d:IU D) (e:IU D) (f:IU D) (g:Int) (h:IU (D×D)) (i:Int):Prop:=a=OW b c d e f g h i
def OV (a:IU D) (b:IU D) (c:IU D) (d:IU D) (e:IU D) (f:Int) (g:IU (D×D)) (h:Int) (i:Sc):IU Box:=[oc a b c d e,.cells 43 (XI f),.map g,.cells 3 (XI h),.cells 3 [.d (.int .i64 (↑(IR (mj i)):Int))],.cells 3 [.d (.int .i64 (↑(IR (mi i)):Int))]]
def Us (a:Int) (b:IU D) (c:Sc) (d:IU D):Bool:=bif bif bif bif decide (a>50)then true else decide ((↑(IR b):Int)>32)then true else decide ((↑(IR (mj c)):Int)>64)then true else decide ((↑(IR (mi c)):Int)>64)then true else decide ((↑(IR d):Int)>64)
theorem h26 (hG:∃m,G 4=some [.int .i64 m]) (s:Sc) (hs:s.Fits):IK Tryz.prog G 26 [s.d] (· = [.int .i64 (yI s)]):=by
 have h56:=λk=>h56 (G:=G) s k;have h94K:=λk h1 h5=>h94K (G:=G) hG s k hs h1 h5;rw[zj]at *;refine zu (LL [(2,xH (α:=Nat) Tryz.prog G (λ_=>LL [(1000005,uT Tryz.prog G [1,2,4] La c26)]) 0 (z8 (z6 Tryz.f26) 0) [1,2] (λk=>(1<=k/\k<=6)/\x8 s (k - 1)=true) (λk=>6 - k) (λk=>[(3,.d (.int .i64 k))]) (λH _=>H)),(12,ze (α:=Nat) Tryz.prog G L0 0 (z8 (z6 Tryz.f26) 1) [1,2,7,40,41] (λi=>i<=s.slots.length/\tI (s.slots.take i)=true) (λi=>s.slots.length - i) (λi=>[(42,.d (.int .i64 i))]) (λH i=>H.take 2++[.map (qZ (s.slots.take i))]))]) Tryz.func26 ⟨_,rfl⟩ (pA (zA mixed (λ_=>zt (xy (by kernel_rfl)))) zz) ?_;apply @z7 _ (∃(x0:Nat),Zl x0 s/\((IA 0 0=IA 0 0/\IA 1 0=IA 1 0/\(1:Int)=(x0:Int)/\IN)/\Zk s/\((0:Int)=0/\IN)/\IN)/\∀(x:Nat),Zl x s->(decide ((x:Int)<=5)=true->(Fj Tryz.prog G 56 [Hd (Zj s),.int .i64 (x:Int)] λ(av:AV)=>av=Gg 94 [] [GO [.int .i64 (x:Int)],.iptr (Zj s)])/\HY Tryz.prog G 94 [G2 4,.iptr [.int .i64 (x:Int)],.iptr (Zj s)] (uF s) λ(x_1:IU D) (H':IU Box)=>∃(l:IU D)(l_1:IU D)(l_2:IU D)(l_3:IU D)(l_4:IU D)(n:Int)(es:IU (D×D)),∃(pend:IQ He)(st:HJ),H'=oa l l_1 l_2 l_3 l_4 n es pend st/\st≠Do/\(pend=none/\Ux s x l l_1 l_2 l_3 l_4 n∨pend=some FJ/\[IP .i64 n]=eU s∨pend=some (DV (W9 c26))/\Ux s x l l_1 l_2 l_3 l_4 n))/\(decide ((x:Int)<=5)=false->∃(x0:Nat),Sf x0 s/\((IA 0 0=IA 0 0/\IA 1 0=IA 1 0/\Fu 2=Fu 2/\vV s=vV s/\lQ s=lQ s/\(0:Int)=(x0:Int)/\IN)/\Zk s/\((0:Int)=0/\IN)/\[]=jQ x0 s/\IN)/\∀(x:Nat),Sf x s->(decide ((x:Int)<lQ s)=true->((0:Int)<=(x:Int)/\(vV s)[IJ (x:Int)]? = some (zr [HI,HX .i64,HX .i64] (vV s) (IJ (x:Int))))/\(F0 (jQ x s) λ(kv:D×D)=>Uw s x kv&&Ft EL (HL kv))=true/\IK Tryz.prog G 58 [IP .i64 (Hf (IB (z1 (vV s) (IJ (x:Int)) (0+1)) default)),.int .i64 6] λ(rs:IU D)=>∃(b:Bool),mh rs b/\IK Tryz.prog G 58 [IP .i64 (Hf (IB (z1 (vV s) (IJ (x:Int)) (0+1+1)) default)),.int .i64 11] λ(rs:IU D)=>∃(b_1:Bool),mh rs b_1/\(Uv x s b b_1=true->Zi s)/\(Uv x s b b_1=false->(F0 (jQ x s) λ(kv:D×D)=>Uw s x kv)=true/\∃(y:Nat),Sf y s/\IR (Hk s) - y<IR (Hk s) - x/\(IA 0 0=IA 0 0/\IA 1 0=IA 1 0/\Fu 2=Fu 2/\vV s=vV s/\lQ s=lQ s/\OX x y)/\Zk s/\((0:Int)=0/\IN)/\updD (jQ x s) (Se s x) (IL true)=jQ y s/\IN))/\(decide ((x:Int)<lQ s)=false->(Uu s=true->Zi s)/\(Uu s=false->HY Tryz.prog G 64 [IH (.sl (eV s)),.clo 59 [] [IA 3 0]] [h94Kq2 s,h94Kq1,.map (jQ x s),.cells 3 [.d (.int .i64 (lQ s))]] λ(rs:IU D) (H':IU Box)=>∃(b:Bool),mh rs b/\∃(l:IU D)(l_1:IU D)(l_2:IU D)(l_3:IU D)(l_4: IU D)(n:Int)(es:IU (D×D)),∃(n_1:Int),Ut H' l l_1 l_2 l_3 l_4 n es n_1/\HY Tryz.prog G 65 [IH (.sl l_2),.clo 61 [] [IA 3 0]] (OW l l_1 l_2 l_3 l_4 n es n_1) λ(rs:IU D) (H':IU Box)=>Ut H' l l_1 l_2 l_3 l_4 n es n_1/\∃(b_1:Bool),mh rs b_1/\IK Tryz.prog G 66 [II l_3,.fn 62] λ(rs:IU D)=>∃(b_2:Bool),mh rs b_2/\HY Tryz.prog G 67 [IH (.sl l_4),.clo 63 [] [IA 4 0,.ptr 5 0]] (OV l l_1 l_2 l_3 l_4 n es n_1 s) λ(rs:IU D) (H':IU Box)=>H'=OV l l_1 l_2 l_3 l_4 n es n_1 s/\∃(b_3:Bool),mh rs b_3/\((bif bif bif b then true else b_1 then true else b_2 then true else b_3)=true->Zi s)/\((bif bif bif b then true else b_1 then true else b_2 then true else b_3)=false->(Us n_1 l_1 s l_4=true->[IP .i64 2]=eU s)/\(Us n_1 l_1 s l_4=false->[IP .i64 0]=eU s))))))
 ·kernel_rfl
 delta Zl Zk vV eV mj mi Zj uF h94Kq23 h94Kq2 h94Kq1 h94Kq22 h94Kq18 h94Kq17 h94Kq3 qq oa oc iQ iR Zo iO h94Kq12 Zn h94Kq10 h94Kq20 h94Kq24 Zm h94Kq21 iP iL h94Kq4 iN h94Kq8 iM Ux OX eU Sf lQ jQ Uw Se mh Uv Zi Uu Ut OW XI OV Us;have b1:∀{k n:Int},(k==n)=true->k=n:=λh=>beq_iff_eq.1 h;have b2:∀{k n:Int},(k==n)=false->¬ k=n:=λh=>by rw[←C6,beq_iff_eq]at h;exact h
 refine⟨1,⟨⟨by omega,by omega⟩,rfl⟩,by and_intros<;>first|rfl|trivial,λx hx=>⟨λhle=>?_,λhgt=>?_⟩⟩
 ·have hle:=G0 hle;refine⟨h56 _,(h94K x (by omega) (by omega)).mono ?_⟩;intro rs H' hh;obtain⟨k,rfl⟩:∃k,x=k+1:=⟨x - 1,by omega⟩;have ek:((k+1:Nat):Int)=(k:Int)+1:=by omega
  cases hb:za (zf s ((k+1:Nat):Int))with
  |true =>
   obtain rfl:=hh.1 hb;rw[ek]at hb;refine⟨_,_,_,_,_,_,_,_,_,rfl,by decide,.inl ⟨rfl,k+2,⟨⟨by omega,by omega⟩,d8 hx.2 hb⟩,by omega,?_⟩⟩;have e1:Hr .i64 (((k+1:Nat):Int)+1)=((k+2:Nat):Int):=by rw[zx (by omega) (by omega)];omega
   and_intros<;>first|exact e1|rfl|trivial
  |false =>
   obtain⟨m,rfl⟩:=hh.2 hb;rw[ek]at hb;exact⟨_,_,_,_,_,_,_,_,_,rfl,by decide,.inr (.inl ⟨rfl,NO (XJ hb (by omega))⟩)⟩
 ·have hgt:=of_decide_eq_false hgt;have h6:x=6:=by omega
  subst h6;have hN:x8 s 5=true:=hx.2;have hsl:=hs.slots;refine⟨0,⟨by omega,rfl⟩,by and_intros<;>first|rfl|trivial,λx hx=>⟨λhlt=>?_,λhge=>?_⟩⟩
  ·simp only[H4,HS]at hlt;obtain⟨z,hz,hm⟩:=zw (l:=s.slots) (x:=x) (by omega);have hsn:=XK hz hx.2;have ei (n:Int):Hf (IB (some (IP .i64 n)) default)=n:=rfl;rw[HF,uR hz,vj hz,vi hz,ei,ei];have hkey:Hd [IP .i64 (Hf (IB (z1 (IT H9 s.slots) x (0+1)) default)),IP .i64 (Hf (IB (z1 (IT H9 s.slots) x (0+1+1)) default))]=Hd [.int .i64 z.day,.int .i64 z.hour]:=by rw[vj hz,vi hz];rfl
   have hall:=OY z.day z.hour (s.slots.take x);have hlk:E8 (IB (zT (qZ (s.slots.take x)) (Hd [.int .i64 z.day,.int .i64 z.hour])) (.bool false))=((s.slots.take x).map yB).contains (z.day,z.hour):=by rw[cH];cases ((s.slots.take x).map yB).contains (z.day,z.hour)<;>rfl
   rw[←hkey]at hall;rw[←hkey]at hlk;refine⟨⟨by omega,uQ hz⟩,hall,(Lo _ 6).use ⟨_,rfl,(Lo _ 11).use ⟨_,rfl,λh=>?_,λh=>?_⟩⟩⟩
   ·have h':(bif bif E8 (IB (zT (qZ (s.slots.take x)) (Hd [IP .i64 (Hf (IB (z1 (IT H9 s.slots) x (0+1)) default)),IP .i64 (Hf (IB (z1 (IT H9 s.slots) x (0+1+1)) default))])) (.bool false))then true else !(decide (0<=z.day)&&decide (z.day<=6))then true else !(decide (0<=z.hour)&&decide (z.hour<=11)))=true:=h;rw[hlk]at h';refine NO (RZ ?_);cases hU:tI s.slots with
    |false=>rfl
    |true =>
     exfalso;have h3:=Uy (x:=x+1) hU;rw[hsn]at h3;unfold sW at h3;cases hc:((s.slots.take x).map yB).contains (z.day,z.hour)<;>rw[hc]at h3 h'<;>simp at h3 h'
     omega
   ·have h':(bif bif E8 (IB (zT (qZ (s.slots.take x)) (Hd [IP .i64 (Hf (IB (z1 (IT H9 s.slots) x (0+1)) default)),IP .i64 (Hf (IB (z1 (IT H9 s.slots) x (0+1+1)) default))])) (.bool false))then true else !(decide (0<=z.day)&&decide (z.day<=6))then true else !(decide (0<=z.hour)&&decide (z.hour<=11)))=false:=h;rw[hlk]at h';have hc:((s.slots.take x).map yB).contains (z.day,z.hour)=false:=by
     cases hc:((s.slots.take x).map yB).contains (z.day,z.hour)with
     |false=>rfl
     |true=>rw[hc]at h';cases h'
    rw[hc]at h';have hok:sW z=true:=by unfold sW;simp at h' ⊢;omega
    have hall2:((qZ (s.slots.take x)).all λkv=>sameKind (Hd [IP .i64 (Hf (IB (z1 (IT H9 s.slots) x (0+1)) default)),IP .i64 (Hf (IB (z1 (IT H9 s.slots) x (0+1+1)) default))]) kv.1)=true:=by rw[G3]at hall ⊢;intro kv hkv;have:=hall kv hkv;rw[HC]at this;exact this.1
    refine⟨hall2,x+1,⟨by omega,by rw[hsn,hok,hc];rfl⟩,by omega,?_⟩;have e1:Hr .i64 ((x:Int)+1)=((x+1:Nat):Int):=by rw[zx (by omega) (by omega)];rfl
    have e2:=XL z.day z.hour (s.slots.take x) hc z rfl;rw[←hkey,←yr hz]at e2;and_intros<;>first|exact e1|exact e2|rfl|trivial
  ·simp only[H4,HH]at hge;have hx2:=hx.2;rw[Gs (by omega)]at hx2;refine⟨λh=>?_,λh=>?_⟩
   ·refine NO (RY ?_);rw[H4,H4]at h;cases hA:((s.slots.length:Int)==0)<;>rw[hA]at h
    ·exact .inr (b1 h)
    ·exact .inl (b1 hA)
   ·rw[H4,H4]at h ⊢;have hne:0<s.slots.length/\0<s.rooms.length:=by
     cases hA:((s.slots.length:Int)==0)<;>rw[hA]at h
     ·have h3:=b2 hA;have h4:((s.rooms.length:Int)==0)=false:=h;have h5:=b2 h4;omega
     ·cases h
    have hrl:=hs.rooms;have hpl:=hs.people;have hgl:=hs.groups;have hll:=hs.lessons;refine(JV s 0 _ s.slots.length s.rooms (by omega) (λz hz=>by have:=hs.shut z hz;omega)).mono ?_;rintro rs H' ⟨rfl,rfl⟩;refine⟨_,rfl,_,_,_,_,_,_,_,_,rfl,(JU s 0 _ s.slots.length s.people (by omega) (λz hz=>by have:=hs.away z hz;omega)).mono ?_⟩;rintro rs H' ⟨rfl,rfl⟩;refine⟨rfl,_,rfl,(JT s.groups (by omega)).use ⟨_,rfl,?_⟩⟩;rw[H4,H4];refine(JS s 0 _ s.slots.length s.people.length s.groups.length s.lessons (by omega) (λz hz=>by have:=hs.who z hz;have:=hs.grs z hz;omega)).mono ?_;rintro rs H' ⟨rfl,rfl⟩;have hmay:vP s=(!(((s.rooms.any λz=>!xP s.slots.length z)||(s.people.any λz=>!y3 z.away s.slots.length))||(s.groups.any λz=>!xw z)||(s.lessons.any λz=>!yX s.people.length s.groups.length z))):=by
     have e1:uM s.slots=true:=by
      rw[eW,hx2];have:s.slots≠[]:=λe=>by rw[e]at hne;simp at hne
      simp[this]
     have e2:s.rooms.isEmpty=false:=by
      have:s.rooms≠[]:=λe=>by rw[e]at hne;simp at hne
      simp[this]
     unfold vP;rw[hN,e1,e2,lR,lR,lR,lR];simp
    refine⟨rfl,_,rfl,λh=>NO ?_,λh=>?_⟩
    ·rw[hmay];simp only[zH]at h;rw[h];rfl
    ·have hm:vP s=true:=by rw[hmay];simp only[zH]at h;rw[h];rfl
     refine⟨λh=>?_,λh=>?_⟩
     ·simp only[zH,H4,F9,HS]at h;unfold yI;rw[IE (by rw[hm];decide),Hv (by omega)]
     ·simp only[zH,H4,E3,HH]at h;unfold yI;rw[IE (by rw[hm];decide),IE (by omega)]
end
def GA (M:Gf) (m:Int):Nat->IQ (IU D)
 |4=>some [.int .i64 m]
 |g=>GG M g
theorem cG (M:Gf) (m:Int):∀g cs,GG M g=some cs->GA M m g=some cs:=by
 intro g cs h;unfold GA;split
 ·simp[GG]at h
 ·exact h
theorem Zh (M:Gf) (m:Int):∃m',GA M m 4=some [.int .i64 m']:=⟨m,rfl⟩
def RM (s:Sc):IU Box:=[.cells 28 (nh s)]
section
variable {G:Nat->IQ (IU D)}
theorem LM (n m:Int):IK Tryz.prog G 131 [.int .i64 n,.int .i64 m] (· = [.bool (decide (0<=n)&&decide (n<m))]):=by
 refine zq Tryz.func131 ⟨_,rfl⟩ ?_;apply @z7 _ ([IL (bif decide (0<=n)then decide (n<m)else false)]=[IL (decide (0<=n)&&decide (n<m))])
 ·kernel_rfl
 simp only[zn]
def wF (a:Sc):IU Box:=[Hl 28 [.d (.sl (IT H9 (Hk a))),.d (.sl (IT H8 (Hg a))),.d (.sl (IT Hy (Hi a))),.d (.sl (IT Hx (Hh a))),.d (.sl (IT H7 (Hn a)))]]
theorem JR (s:Sc) (z:Pl):HY Tryz.prog G 130 [.d z.d,.ptr 0 0] (RM s) (λrs H'=>rs=[.bool (!xX s z)]/\H'=RM s):=by
 unfold H6;refine zB Tryz.func130 rfl ⟨_,_,rfl,rfl⟩ ?_;apply @z7 _ (IK Tryz.prog G 131 [IP .i64 (Pl.slot z),.int .i64 (↑(IR (IT H9 (Hk s))):Int)] λ(rs:IU D)=>∃(b:Bool),rs=[IL b]/\IK Tryz.prog G 131 [IP .i64 (Pl.room z),.int .i64 (↑(IR (IT H8 (Hg s))):Int)] λ(rs:IU D)=>∃(b_1:Bool),rs=[IL b_1]/\[IL (bif !b then true else !b_1)]=[IL !xX s z]/\wF s=wF s)
 ·kernel_rfl
 delta wF;rw[H4,H4];refine(LM z.slot s.slots.length).use ⟨_,rfl,(LM z.room s.rooms.length).use ⟨_,rfl,?_,rfl⟩⟩;unfold xX;simp only[zH,BI,zwl]
def oZ (a:Nat) (b:IU Pl) (c:Sc):Prop:=a<=IR b/\yg (λ(z:Pl)=>!xX c z) (GM a b) a=yg (λ(z:Pl)=>!xX c z) b 0
def oY (a:IU Pl) (b:Nat):D:=zr [HX .i64,HX .i64] (IT H6 a) (IJ (b:Int))
def qp (a:IU D) (b:IU D) (c:IU D) (d:IU D) (e:IU D):IU Box:=[Hl 28 [.d (.sl a),.d (.sl b),.d (.sl c),.d (.sl d),.d (.sl e)]]
theorem LK (s:Sc) (l:IU Pl) (hl:l.length<4611686018427387904):HY Tryz.prog G 167 [.d (.sl (l.map H6)),.clo 130 [] [.ptr 0 0]] (RM s) (λrs H'=>rs=[.int .i64 (yg (λz=>!xX s z) l 0)]/\H'=RM s):=by
 refine zZ (LL [(2,ze (α:=Nat) Tryz.prog G L0 1 (z8 (z6 Tryz.f167) 0) [0,1,7] (λi=>i<=l.length/\yg (λz=>!xX s z) (l.drop i) i=yg (λz=>!xX s z) l 0) (λi=>l.length - i) (λi=>[(8,.d (.int .i64 i))]) (λH _=>H))]) Tryz.func167 rfl ⟨_,_,rfl,rfl⟩ (zt zz) ?_;apply @z7 _ (∃(x0:Nat),oZ x0 l s/\((IT H6 l=IT H6 l/\Gg 130 [] [IA 0 0]=Gg 130 [] [IA 0 0]/\(↑(IR (IT H6 l)):Int)=(↑(IR (IT H6 l)):Int)/\(0:Int)=(x0:Int)/\IN)/\(IT H9 (Hk s)=IT H9 (Hk s)/\IT H8 (Hg s)=IT H8 (Hg s)/\IT Hy (Hi s)=IT Hy (Hi s)/\IT Hx (Hh s)=IT Hx (Hh s)/\IT H7 (Hn s)=IT H7 (Hn s)/\IN)/\IN)/\∀(x:Nat),oZ x l s->(decide ((x:Int)<(↑(IR (IT H6 l)):Int))=true->((0:Int)<=(x:Int)/\(IT H6 l)[IJ (x:Int)]? = some (oY l x))/\HY Tryz.prog G 130 [IH (oY l x),.ptr 0 0] (wF s) λ(rs:IU D) (H':IU Box)=>∃(b:Bool),rs=[IL b]/\∃(l_1: IU D)(l_2:IU D)(l_3:IU D)(l_4:IU D)(l_5:IU D),H'=qp l_1 l_2 l_3 l_4 l_5/\(b=true->[IP .i64 (x:Int)]=[IP .i64 (yg (λ(z:Pl)=>!xX s z) l 0)]/\qp l_1 l_2 l_3 l_4 l_5=wF s)/\(b=false->∃(y:Nat),oZ y l s/\IR l - y<IR l - x/\(IT H6 l=IT H6 l/\Gg 130 [] [IA 0 0]=Gg 130 [] [IA 0 0]/\(↑(IR (IT H6 l)):Int)=(↑(IR (IT H6 l)):Int)/\Hr .i64 ((x:Int)+1)=(y:Int)/\IN)/\(l_1=IT H9 (Hk s)/\l_2=IT H8 (Hg s)/\l_3=IT Hy (Hi s)/\l_4=IT Hx (Hh s)/\l_5=IT H7 (Hn s)/\IN)/\IN))/\(decide ((x:Int)<(↑(IR (IT H6 l)):Int))=false->[IP .i64 (-1)]=[IP .i64 (yg (λ(z:Pl) =>!xX s z) l 0)]/\wF s=wF s))
 ·kernel_rfl
 delta oZ oY wF qp;refine⟨0,⟨GD _,rfl⟩,by and_intros<;>first|rfl|trivial,λx hx=>⟨λhlt=>?_,λhge=>?_⟩⟩
 ·simp only[H4,HS]at hlt;obtain⟨z,hz,hm⟩:=zw (l:=l) (x:=x) (by omega);have hx2:=hx.2;rw[ye hz,yg]at hx2;rw[HF,vh hz];refine⟨⟨by omega,vg hz⟩,(JR s z).mono ?_⟩;rintro rs H' ⟨rfl,rfl⟩;have e1:Hr .i64 ((x:Int)+1)=((x+1:Nat):Int):=by rw[zx (by omega) (by omega)];rfl
  refine⟨_,rfl,_,_,_,_,_,rfl,λhb=>⟨?_,rfl⟩,λhb=>⟨x+1,⟨by omega,?_⟩,by omega,by and_intros<;>first|rfl|trivial|exact e1⟩⟩
  ·rw[Hv hb]at hx2;rw[hx2]
  ·rw[IE (by rw[hb];decide)]at hx2;exact hx2
 ·simp only[H4,HH]at hge;have hx2:=hx.2;rw[Fx (by omega),yg]at hx2;exact⟨by rw[hx2],rfl⟩
theorem LJ (s:Sc) (l:IU Pl) (hl:l.length<4611686018427387904):HY Tryz.prog G 132 [.d (.sl (l.map H6)),.clo 130 [] [.ptr 0 0]] (RM s) (λrs H'=>rs=[.bool (l.any λz=>!xX s z)]/\H'=RM s):=by
 refine zB Tryz.func132 rfl ⟨_,_,rfl,rfl⟩ ?_;apply @z7 _ (HY Tryz.prog G 167 [IH (.sl (IT H6 l)),.clo 130 [] [IA 0 0]] (wF s) λ(rs:IU D) (H':IU Box)=>∃(n:Int),rs=[IP .i64 n]/\∃(l_1:IU D)(l_2:IU D)(l_3:IU D)(l_4:IU D)(l_5:IU D),H'=qp l_1 l_2 l_3 l_4 l_5/\[IL (decide (n>=0))]=[IL (Fk l λ(z:Pl)=>!xX s z)]/\qp l_1 l_2 l_3 l_4 l_5=wF s)
 ·kernel_rfl
 delta wF qp oZ oY;refine(LK (G:=G) s l hl).mono ?_;rintro rs H' ⟨rfl,rfl⟩;refine⟨_,rfl,_,_,_,_,_,rfl,?_,rfl⟩;rw[tK]
def Sd (a:Sc) (b:IU Pl):IU D:=[IP .i64 (y4 a b)]
def OU (a:IU Pl) (b:Sc) (c:Bool):Bool:=bif (↑(IR (IT H6 a)):Int) != (↑(IR (IT H7 (Hn b))):Int)then true else c
theorem h83 (hG:∃m,G 4=some [.int .i64 m]) (s:Sc) (w:IU Pl) (hs:s.Fits) (hw:w.length<1099511627776):IK Tryz.prog G 83 [s.d,xl w] (· = [.int .i64 (y4 s w)]):=by
 have h26:=h26 (G:=G) hG s hs;rw[zj,zO]at *;refine zq Tryz.func83 ⟨_,rfl⟩ ?_;apply @z7 _ (IK Tryz.prog G 26 [Hd [.sl (IT H9 (Hk s)),.sl (IT H8 (Hg s)),.sl (IT Hy (Hi s)),.sl (IT Hx (Hh s)),.sl (IT H7 (Hn s))]] λ(rs:IU D)=>∃(n:Int),rs=[IP .i64 n]/\((n != 0)=true->[IP .i64 n]=Sd s w)/\((n != 0)=false->HY Tryz.prog G 132 [IH (.sl (IT H6 w)),.clo 130 [] [IA 0 0]] (wF s) λ(rs:IU D) (H':IU Box)=>H'=wF s/\∃(b:Bool),rs=[IL b]/\(OU w s b=true->[IP .i64 40]=Sd s w)/\(OU w s b=false->[IP .i64 0]=Sd s w)))
 ·kernel_rfl
 delta Sd wF OU;refine h26.use ⟨_,rfl,λh=>?_,λh=>(LJ s w (by omega)).mono ?_⟩
 ·rw[y4,Hv (by simpa using h)]
 ·rintro rs H' ⟨rfl,rfl⟩;have h0:yI s=0:=by simpa using h
  rw[lR,H4,H4];refine⟨rfl,_,rfl,λh3=>?_,λh3=>?_⟩
  ·simp only[zH,F9,bne_iff_ne,Fe]at h3;rw[y4,IE (by simp[h0]),Hv];rcases h3 with h3|h3
   ·left;omega
   ·right;exact h3
  ·simp only[zH,E3,bne_eq_false_iff_eq,Bool.not_eq_false']at h3;rw[y4,IE (by simp[h0]),IE];rintro (h4|h4)
   ·omega
   ·rw[h3.2]at h4;cases h4
theorem h49 (hG:∃m,G 4=some [.int .i64 m]) (p:Pn) (w:IU Pl) (hp:p.Fits) (hw:w.length<1099511627776):IK Tryz.prog G 49 [p.d,xl w] (· = [.bool (y4 p.sc w==0)]):=by
 have h83:=h83 (G:=G) hG p.sc w hp.sc hw;rw[zj]at *;rw[yj];rw[zO]at *;refine zq Tryz.func49 ⟨_,rfl⟩ ?_;apply @z7 _ (IK Tryz.prog G 83 [Hd [.sl (IT H9 (Hk (HU p))),.sl (IT H8 (Hg (HU p))),.sl (IT Hy (Hi (HU p))),.sl (IT Hx (Hh (HU p))),.sl (IT H7 (Hn (HU p)))],.agg [.sl (IT H6 w)]] λ(rs:IU D)=>∃(n:Int),rs=[IP .i64 n]/\[IL (n==0)]=[IL (y4 (HU p) w==0)])
 ·kernel_rfl
 exact h83.use ⟨_,rfl,rfl⟩
def pV (a:IU Pl):Int:=(↑(IR (IT H6 a)):Int)
def OT (a:IU Pl) (b:IU Pl):IU D:=[II (IT Dg (if IR a=IR b then diffL 0 a b else [])),.int .i64 (if IR a=IR b then 0 else 1)]
def nc (a:IU Pl) (b:IU Pl) (c:Nat):IU D:=IT Dg (wm a b c)
def cF (a:IU Pl) (b:IU Pl) (c:Nat):Nat:=IR (wm a b c)
def lP (a:IU Pl):Prop:=IT H6 a=IT H6 a
def OS (a:Nat) (b:IU Pl):Prop:=(0:Int)<=(a:Int)/\(IT H6 b)[IJ (a:Int)]? = some (oY b a)
def OR (a:IU Pl) (b:Nat):IU D:=G6 [Hd (G6 [(λ(x:Sh×Nat)=>match x with|(sh,j)=>GP sh (IB (z1 (IT H6 a) (IJ (b:Int)) j) default)) (HX .i64,0+1),(λ(x:Sh×Nat)=>match x with|(sh,j)=>GP sh (IB (z1 (IT H6 a) (IJ (b:Int)) j) default)) (HX .i64,0),.int .i64 (b:Int)])]
def OQ (a:IU Pl) (b:Nat) (c:Nat):Prop:=(0:Int)=0/\lP a/\pV a=pV a/\Hr .i64 ((b:Int)+1)=(c:Int)/\IN
theorem h51 (a b:IU Pl) (hb:b.length<1099511627776):IK Tryz.prog G 51 [xl a,xl b] (· = [.sl ((if a.length=b.length then diffL 0 a b else []).map Dg),.int .i64 (if a.length=b.length then 0 else 1)]):=by
 rw[zO,zO];refine zu (LL [(4,ze (α:=Nat) Tryz.prog G L0 0 (z8 (z6 Tryz.f51) 0) [2,3,5,16,17] (λx=>x<=b.length) (λx=>b.length - x) (λx=>[(4,.vec 2 ((wm a b x).map Dg)),(18,.d (.int .i64 x))]) (λH x=>[H.getD 0 .dead,H.getD 1 .dead,.vec (wm a b x).length 3]))]) Tryz.func51 ⟨_,rfl⟩ (zt zz) ?_;apply @z7 _ (((pV a != pV b)=true->[II [],.int .i64 1]=OT a b)/\((pV a != pV b)=false->∃(x0:Nat),x0<=IR b/\((IA 0 0=IA 0 0/\IA 1 0=IA 1 0/\([]=nc a b x0/\IR ([]:IU D)<=cF a b x0)/\(0:Int)=0/\lP b/\pV b=pV b/\(0:Int)=(x0:Int)/\IN)/\(lP a/\IN)/\(lP b/\IN)/\IN)/\∀(x:Nat),x<=IR b->(decide ((x:Int)<pV b)=true->OS x b/\OS x a/\((!(λ(r:Bool)=>Hf (IB (z1 (IT H6 b) (IJ (x:Int)) 0) default)==Hf (IB (z1 (IT H6 a) (IJ (x:Int)) 0) default)&&r) ((λ(r:Bool)=>Hf (IB (z1 (IT H6 b) (IJ (x:Int)) (0+1)) default)==Hf (IB (z1 (IT H6 a) (IJ (x:Int)) (0+1)) default)&&r) true))=true->(cF a b x=IR (nc a b x)/\3=3/\FA (nc a b x) [Hd [.int .i64 (x:Int),.int .i64 (Hf (IB (z1 (IT H6 b) (IJ (x:Int)) 0) default)),.int .i64 (Hf (IB (z1 (IT H6 b) (IJ (x:Int)) (0+1)) default))]] (nat_lit 3) (nat_lit 24))/\∃(y:Nat),y<=IR b/\IR b - y<IR b - x/\(IA 0 0=IA 0 0/\IA 1 0=IA 1 0/\nc a b x++OR b x=nc a b y/\OQ b x y)/\(lP a/\IN)/\(lP b/\IN)/\IR (nc a b x)+IR (OR b x)=cF a b y/\IN)/\((!(λ(r:Bool)=>Hf (IB (z1 (IT H6 b) (IJ (x:Int)) 0) default)==Hf (IB (z1 (IT H6 a) (IJ (x:Int)) 0) default)&&r) ((λ(r:Bool)=>Hf (IB (z1 (IT H6 b) (IJ (↑x: Int)) (0+1)) default)==Hf (IB (z1 (IT H6 a) (IJ (x:Int)) (0+1)) default)&&r) true))=false->∃(y:Nat),y<=IR b/\IR b - y<IR b - x/\(IA 0 0=IA 0 0/\IA 1 0=IA 1 0/\nc a b x=nc a b y/\OQ b x y)/\(lP a/\IN)/\(lP b/\IN)/\cF a b x=cF a b y/\IN))/\(decide ((x:Int)<pV b)=false->[II (nc a b x),.int .i64 0]=OT a b)))
 ·kernel_rfl
 delta pV OT nc cF lP OS oY oZ wF qp OR OQ;refine⟨λh=>?_,λh=>?_⟩
 ·rw[H4,H4]at h;have hne:a.length≠b.length:=λe=>by rw[e]at h;simp at h
  rw[IE hne,IE hne];rfl
 ·rw[H4,H4]at h;have he:a.length=b.length:=by
   have:(a.length:Int)=b.length:=by simpa using h
   omega
  refine⟨0,by omega,by and_intros<;>first|rfl|trivial|simp,λx hx=>⟨λhlt=>?_,λhge=>?_⟩⟩
  ·simp only[H4,HS]at hlt;obtain⟨y,hy,hym⟩:=zw (l:=a) (x:=x) (by omega);obtain⟨z,hz,hzm⟩:=zw (l:=b) (x:=x) (by omega);have ei (n:Int):Hf (IB (some (IP .i64 n)) default)=n:=rfl;have hlen:=ct a b x;simp only[HF,vh hy,vh hz,xZ hy,xY hy,xZ hz,xY hz,ei];have hc:(!(z.slot==y.slot&&(z.room==y.room&&true)))=decide (y≠z):=by rw[Ge];cases y;cases z;simp;omega
   rw[hc];have hg1:0<=(x:Int)/\(IT H6 a)[x]? = some y.d:=⟨by omega,vg hy⟩;have hg2:0<=(x:Int)/\(IT H6 b)[x]? = some z.d:=⟨by omega,vg hz⟩;have e1:Hr .i64 ((x:Int)+1)=((x+1:Nat):Int):=by rw[zx (by omega) (by omega)];rfl
   have hcm:=X5 (wm a b x);unfold yH at hcm;refine⟨hg2,hg1,λh3=>⟨⟨by simp,by trivial,by rw[Fb,hcm];rfl,by simp;omega⟩,x+1,by omega,by omega,?_⟩,λh3=>⟨x+1,by omega,by omega,?_⟩⟩
   ·have e2:(wm a b x).map Dg++[Hd [.int .i64 (x:Int),.int .i64 z.slot,.int .i64 z.room]]=(wm a b (x+1)).map Dg:=by rw[wG hy hz,Hv (G0 h3),GI];rfl
    have e3:(wm a b (x+1)).length=(wm a b x).length+1:=by rw[wG hy hz,Hv (G0 h3)];simp
    and_intros<;>first|rfl|trivial|exact e1|exact e2|exact e3.symm|(simp;omega)
   ·have e2:(wm a b (x+1))=wm a b x:=by rw[wG hy hz,IE (of_decide_eq_false h3),IU.append_nil]
    rw[e2];and_intros<;>first|rfl|trivial|exact e1
  ·simp only[H4,HH]at hge;rw[Hv he,Hv he];unfold wm;rw[Gs (by omega),Gs (by omega)]
theorem h21 (hG:∃m,G 4=some [.int .i64 m]) (p:Pn) (old w:IU Pl) (hp:p.Fits) (ho:old.length<1099511627776) (hw:w.length<1099511627776):IK Tryz.prog G 21 [p.d,xl old,xl w] (· = [.int .i64 (xu p old w)]):=by
 have h49:=h49 (G:=G) hG p old hp ho;have h51:=h51 (G:=G) old w hw;rw[yj]at *;rw[zO,zO]at *;refine zq Tryz.func21 ⟨_,rfl⟩ ?_;apply @z7 _ (IK Tryz.prog G 49 [Hd [.sl (IT H9 (Hk (HU p))),.sl (IT H8 (Hg (HU p))),.sl (IT Hy (Hi (HU p))),.sl (IT Hx (Hh (HU p))),.sl (IT H7 (Hn (HU p))),.sl (IT Hm (F6 p)),.sl (IT intD (GX p))],.agg [.sl (IT H6 old)]] λ(rs:IU D)=>∃(b:Bool),rs=[IL b]/\((!b)=true->[IP .i64 0]=[IP .i64 (xu p old w)])/\((!b)=false->IK Tryz.prog G 51 [Hd [.sl (IT H6 old)],.agg [.sl (IT H6 w)]] λ(rs:IU D)=>∃(l:IU D)(n:Int),rs=[II l,.int .i64 n]/\[IP .i64 (↑(IR l):Int)]=[IP .i64 (xu p old w)]))
 ·kernel_rfl
 refine h49.use ⟨_,rfl,λh=>?_,λh=>h51.use ⟨_,_,rfl,?_⟩⟩
 ·have h0:y4 p.sc old≠0:=by simpa using h
  unfold xu;rw[Hv h0]
 ·have h0:y4 p.sc old=0:=by simpa using h
  have hm:xu p old w=if old.length=w.length then((diffL 0 old w).length:Int)else 0:=by unfold xu;rw[IE (by rw[h0];decide)]
  rw[hm];by_cases e:old.length=w.length
  ·rw[Hv e,Hv e,H4]
  ·rw[IE e,IE e];rfl
end
def c47:He:=unScope (z8 (z8 (z6 Tryz.f47) 0) 0)
def tm47:IU AV:=[.any,.any,.any,.ptr 0 0,.ptr 1 0,.any,.any,.any,.any,.any,.any,.ptr 2 0,.ptr 4 0,.ptr 5 0,.any,.any,.any,.any,.any,.any,.any,.any,.any,.any,.any,.any,.any,.any,.any,.any,.any,.any,.any,.any,.any,.any,.any,.any,.any,.any,.any,.any,.any,.any,.any,.any,.any,.any,.any,.any,.any,.any,.any,.any,.any,.any,.any,.any,.any,.any,.any,.any,.any]
def LI (r:Ru):IU AV:=[.d (.str r.name),.d (.bool r.hard),.d (.int .i64 r.weight),.d (.sl (r.each.map ID)),.d (.int .i64 r.body.kind),.d (.str r.body.name),.d (.int .i64 r.body.n),.d (.sl (r.body.ts.map Hq)),.d (.sl (r.body.bs.map ID)),.d (.sl (r.body.l.map HV))]
def hBr (s:Sc) (w:IU Pl) (out:IU In) (i:Int) (r:Ru):IU Box:=[.cells 28 (nh s),.cells 35 [.d (.sl (w.map H6))],.cells 109 [.vec 3 (out.map GZ)],.vec out.length 6,.cells 3 [.d (.int .i64 i)],.cells 89 (LI r),.loop tm47 (zY c47) (zk c47) (zX c47) none .ready]
section
variable {G:Nat->IQ (IU D)}{M:Gf}
def j3 (a:Sc):Box:=Hl 28 [.d (.sl (IT H9 (Hk a))),.d (.sl (IT H8 (Hg a))),.d (.sl (IT Hy (Hi a))),.d (.sl (IT Hx (Hh a))),.d (.sl (IT H7 (Hn a)))]
def j4 (a:IU Pl):Box:=Hl 35 [.d (.sl (IT H6 a))]
def RX (a:IU Int) (b:Int):IU D:=G6 [Hd (G6 [II [],.int .i64 0,.int .i64 0,.int .i64 0,.sl (IT intD a),.int .i64 b])]
def d9 (a:Int) (b:Ru):IU Box:=[Hl 3 [.d (.int .i64 a)],.cells 89 [.d (.str (FX b)),.d (.bool (FW b)),.d (.int .i64 (FZ b)),.d (.sl (IT ID (GT b))),.d (.int .i64 (Hj (G7 b))),.d (.str (HE (G7 b))),.d (.int .i64 (HB (G7 b))),.d (.sl (IT Hq (HM (G7 b)))),.d (.sl (IT ID (HN (G7 b)))),.d (.sl (IT HV (Hz (G7 b))))],.loop [IM,.any,.any,.ptr 0 0,.ptr 1 0,.any,.any,.any,.any,.any,.any,.ptr 2 0,.ptr 4 0,.ptr 5 0,.any,.any,.any,.any,.any,.any,.any,.any,.any,.any,.any,.any,.any,.any,.any,.any,.any,.any,.any,.any,.any,.any,.any,.any,.any,.any,.any,.any,.any,.any,.any,.any,.any,.any,.any,.any,.any,.any,.any,.any,.any,.any,.any,.any,.any,.any,.any,.any,.any] (zY c47) (zk c47) (zX c47) none GY]
def RW (a:Bool) (b:IU In) (c:Int) (d:IU Int):IU In:=if a=true then b else b++[In.mk c d]
def RU (a:Sc) (b:IU Pl) (c:Bool) (d:IU In) (e:Int) (f:IU Int) (g:Ru):IU Box:=j3 a::j4 b::Hl 109 [.vec 3 (IT GZ (RW c d e f))]::FY (IR (RW c d e f)) 6::d9 e g
theorem JQ (s:Sc) (w:IU Pl) (out:IU In) (i:Int) (r:Ru) (t:IU Int) (b:Bool) (ho:out.length<1099511627776) (hb:r.each.length<1099511627776) (ht:r.each.length<=t.length) (hrec:IK Tryz.prog G 87 [io s w,.sl ((yo r.each t).map HO),r.body.d] (· = [.bool b])):Gi Tryz.prog G 6 [.d (wz t)] (hBr s w out i r) (λrs H'=>rs=[.bool true]/\H'=hBr s w (if b then out else out++[⟨i,t⟩]) i r):=by
 have h88:=h88 (G:=G) [] r.each t (by decide) hb ht;rw[yf]at hrec;unfold io at hrec;unfold wz at *;refine DW (tm:=tm47) (ps:=zY c47) (asn:=zk c47) (bd:=zX c47) mixed L0 rfl (by kernel_rfl) rfl rfl ⟨_,_,rfl,rfl⟩ (λ_=>ns (by kernel_rfl)) (λ_=>ns (by kernel_rfl)) ?_;apply @z7 _ (IK Tryz.prog G 88 [II [],.sl (IT ID (GT r)),.sl (IT intD t)] λ(rs:IU D)=>∃(l:IU D),rs=[II l]/\IK Tryz.prog G 87 [Hd [.sl (IT H9 (Hk s)),.sl (IT H8 (Hg s)),.sl (IT Hy (Hi s)),.sl (IT Hx (Hh s)),.sl (IT H7 (Hn s)),.sl (IT H6 w)],.sl l,.agg [.int .i64 (Hj (G7 r)),.str (HE (G7 r)),.int .i64 (HB (G7 r)),.sl (IT Hq (HM (G7 r))),.sl (IT ID (HN (G7 r))),.sl (IT HV (Hz (G7 r)))]] λ(rs:IU D)=>∃(b_1:Bool),rs=[IL b_1]/\((!b_1)=true->(IR out=IR (IT GZ out)/\6=6/\FA (IT GZ out) [Hd [.int .i64 i,.sl (IT intD t),.int .i64 0,.int .i64 0,.int .i64 0,.sl []]] (nat_lit 6) (nat_lit 80))/\[IL true]=[IL true]/\j3 s::j4 w::Hl 109 [.vec 3 (IT GZ out++RX t i)]::FY (IR (IT GZ out)+IR (RX t i)) 6::d9 i r=RU s w b out i t r)/\((!b_1)=false->[IL true]=[IL true]/\j3 s::j4 w::Hl 109 [.vec 3 (IT GZ out)]::FY (IR out) 6::d9 i r=RU s w b out i t r))
 ·kernel_rfl
 delta j3 j4 RX d9 RU RW;refine h88.use ⟨_,rfl,hrec.use ⟨_,rfl,λh=>?_,λh=>?_⟩⟩
 ·have hb0:b=false:=by simpa using h
  subst hb0;have hc:=Xd out;unfold yH at hc;refine⟨⟨by simp,rfl,⟨by rw[Fb,hc];rfl,by simp;omega⟩⟩,rfl,?_⟩
  ·have e1:IT GZ out++[Hd [.int .i64 i,.sl (t.map intD),.int .i64 0,.int .i64 0,.int .i64 0,.sl []]]=IT GZ (if false=true then out else out++[⟨i,t⟩]):=by simp[GZ]
   have e2:(IT GZ out).length+1=(if false=true then out else out++[⟨i,t⟩]:IU In).length:=by simp
   rw[←e1,←e2];rfl
 ·have hb0:b=true:=by simpa using h
  subst hb0;exact⟨rfl,rfl⟩
def Ur (a:Sc) (b:IU Pl) (c:Nat->IU In) (d:Nat) (e:Int) (f:Ru) (g:IU Int):IU Box:=[j3 a,j4 b,.cells 109 [.vec 3 (IT GZ (c d))],.vec (IR (c d)) 6,.cells 3 [.d (.int .i64 e)],.cells 89 [.d (.str (FX f)),.d (.bool (FW f)),.d (.int .i64 (FZ f)),.d (.sl (IT ID (GT f))),.d (.int .i64 (Hj (G7 f))),.d (.str (HE (G7 f))),.d (.int .i64 (HB (G7 f))),.d (.sl (IT Hq (HM (G7 f)))),.d (.sl (IT ID (HN (G7 f)))),.d (.sl (IT HV (Hz (G7 f))))],.loop [IM,.any,.any,.ptr 0 0,.ptr 1 0,.any,.any,.any,.any,.any,.any,.ptr 2 0,.ptr 4 0,.ptr 5 0,.any,.any,.any,.any,.any,.any,.any,.any,.any,.any,.any,.any,.any,.any,.any,.any,.any,.any,.any,.any,.any,.any,.any,.any,.any,.any,.any,.any,.any, .any,.any,.any,.any,.any,.any,.any,.any,.any,.any,.any,.any,.any,.any,.any,.any,.any,.any,.any,.any] (zY c47) (zk c47) (zX c47) none GY,.arr 1 (IT intD g)]
def Uq (a:Sc) (b:IU Pl) (c:Nat->IU In) (d:Nat) (e:Int) (f:Ru) (g:IU Int):Prop:=Ur a b c d e f g=Ur a b c d e f g
theorem JP (s:Sc) (w:IU Pl) (O:Nat->IU In) (i:Int) (r:Ru) (k:Nat) (t:IU Int) (ht:t.length<1099511627776):HY Tryz.prog G 35 [.msl 7] (hBr s w (O k) i r++[.arr 1 (t.map intD)]) (λrs H'=>rs=[wz t]/\H'=hBr s w (O k) i r++[.arr 1 (t.map intD)]):=by
 refine zB Tryz.func35 rfl ⟨_,_,rfl,rfl⟩ ?_;apply @z7 _ ((false=true->[II []]=[II (IT intD t)]/\Uq s w O k i r t)/\(false=false->FA [] (IT intD t) (nat_lit 1) (nat_lit 8)/\[II (G6 ([]:IU D)++IT intD t)]=[II (IT intD t)]/\Uq s w O k i r t))
 ·kernel_rfl
 delta Uq Ur j3 j4 RX d9 RU RW;refine⟨λh=>Hu h (by decide),λ_=>⟨⟨?_,by simp;omega⟩,rfl,rfl⟩⟩;simpa using u0 t
def pU (a:Sc) (b:IU Pl) (c:Nat->IU In) (d:IU Bd) (e:Int) (f:Ru):IU Box:=j3 a::j4 b::Hl 109 [.vec 3 (IT GZ (c (IR (zg a d))))]::FY (IR (c (IR (zg a d)))) 6::d9 e f
def ub (a:IU Bd):Int:=(↑(IR (IT ID a)):Int)
def pT (a:Sc) (b:IU Bd):Prop:=GO [.sl (IT intD (zM a b))]=GO [.sl (IT intD (zM a b))]
def lO (a:IU Bd):Prop:=GO [.sl (IT ID a)]=GO [.sl (IT ID a)]
def lN (a:Sc) (b:IU Bd):Prop:=G2 6=G2 6/\pT a b/\lO b/\F1 7=F1 7/\IN
def ri (a:Sc):Prop:=IT H9 (Hk a)=IT H9 (Hk a)/\IT H8 (Hg a)=IT H8 (Hg a)/\IT Hy (Hi a)=IT Hy (Hi a)/\IT Hx (Hh a)=IT Hx (Hh a)/\IT H7 (Hn a)=IT H7 (Hn a)/\IN
def rh (a:IU Pl):Prop:=IT H6 a=IT H6 a/\IN
def rf (a:Ru):IU D:=IT Hq (HM (G7 a))
def oX (a:Ru):IU D:=IT ID (HN (G7 a))
def oW (a:Ru):IU D:=IT HV (Hz (G7 a))
def pS (a:Ru):Prop:=FX a=FX a/\FW a=FW a/\FZ a=FZ a/\IT ID (GT a)=IT ID (GT a)/\Hj (G7 a)=Hj (G7 a)/\HE (G7 a)=HE (G7 a)/\HB (G7 a)=HB (G7 a)/\rf a=rf a/\oX a=oX a/\oW a=oW a/\IN
def h135Bq27:IU AV:=[IM,.any,.any,.ptr 0 0,.ptr 1 0,.any,.any,.any,.any,.any,.any,.ptr 2 0,.ptr 4 0,.ptr 5 0,.any,.any,.any,.any,.any,.any,.any,.any,.any,.any,.any,.any,.any,.any,.any,.any,.any,.any,.any,.any,.any,.any,.any,.any,.any,.any,.any,.any,.any,.any,.any,.any,.any,.any,.any,.any,.any,.any,.any,.any,.any,.any,.any,.any,.any,.any,.any,.any,.any]
def h135Bq19:Box:=Gz h135Bq27 (zY c47) (zk c47) (zX c47) none GY
def h135Bq26:Prop:=h135Bq19=h135Bq19
def ua (a:Int):Box:=Hl 3 [.d (.int .i64 a)]
def vU (a:IU D):IU AV:=[IH (.sl a)]
def lM (a:IU D) (b:IU D) (c:IU D):IU AV:=IH (.sl a)::IH (.sl b)::vU c
def h135Bq11 (a:IU D) (b:IU D) (c:IU D) (d:IU D) (e:IU D):Box:=Hl 28 (IH (.sl a)::IH (.sl b)::lM c d e)
def qo (a:IU D):Box:=Hl 109 [.vec 3 a]
def iK (a:IU UInt8) (b:Bool) (c:Int) (d:IU D) (e:Int) (f:IU UInt8) (g:Int) (h:IU D) (i:IU D) (j:IU D):Box:=Hl 89 (IH (.str a)::IH (.bool b)::IH (.int .i64 c)::IH (.sl d)::IH (.int .i64 e)::IH (.str f)::IH (.int .i64 g)::lM h i j)
def pR (a:IQ He) (b:HJ):Box:=Gz h135Bq27 (zY c47) (zk c47) (zX c47) a b
def oV (a:IU UInt8) (b:Bool) (c:Int) (d:IU D) (e:Int) (f:IU UInt8) (g:Int) (h:IU D) (i:IU D) (j:IU D) (k:IQ He) (m:HJ):IU Box:=[iK a b c d e f g h i j,pR k m]
def yV (a:Nat×Nat):Int:=(↑(Hw a):Int) - 1
def qn (a:Nat->IU In) (b:Nat):IU D:=IT GZ (a (b+1))
def tH (a:Nat->IU In) (b:Nat):Nat:=IR (a (b+1))
def wj (a:Sc) (b:IU Bd) (c:Nat×Nat):IU D:=IT intD (w9 a b (Hw c) (HL c))
def pQ (a:Nat×Nat):Prop:=decide (yV a>=0)=true
def lL (a:Nat×Nat) (b:Sc) (c:IU Bd):Prop:=IJ (yV a)<IR (wj b c a)
def oU (a:Nat×Nat) (b:Sc) (c:IU Bd):Prop:=0<=yV a/\lL a b c
def lK (a:Sc) (b:IU Bd) (c:Nat×Nat):Prop:=z1 (wj a b c) (IJ (yV c)) 0=some (IP .i64 (Hf (IB (z1 (wj a b c) (IJ (yV c)) 0) default)))/\IN
def lJ (a:Sc) (b:IU Bd) (c:Nat×Nat):Int:=Hf (IB (z1 (IT intD (zM a b)) (IJ (yV c)) 0) default)
def lI (a:Nat×Nat) (b:Sc) (c:IU Bd):Bool:=bif decide (yV a>=0)then Hr .i64 (Hf (IB (z1 (wj b c a) (IJ (yV a)) 0) default)+1)==lJ b c a else false
theorem LH (s:Sc) (w:IU Pl) (O:Nat->IU In) (i:Int) (r:Ru) (bs:IU Bd) (hb:bs.length<=1000000000) (hsz:∀b∈bs,cN s b<1099511627776) (hY:∀(k:Nat) (t:IU Int),(zg s bs)[k]? = some t->Gi Tryz.prog G 6 [.d (wz t)] (hBr s w (O k) i r) (λrs H'=>rs=[.bool true]/\H'=hBr s w (O (k+1)) i r)): HY Tryz.prog G 135 [.yld 6,.iptr [wz (zM s bs)],.iptr [.sl (bs.map ID)]] (hBr s w (O 0) i r) (λ_ H'=>H'=hBr s w (O (zg s bs).length) i r):=by
 have hcl:=λk t h=>JP (G:=G) s w O i r k t h;unfold wz at *;refine zZ (LL [(2,xH (α:=Nat) Tryz.prog G (λk=>LL [(4,ze (α:=Nat×Nat) Tryz.prog G L0 7 (z8 (z8 (z6 Tryz.f135) 0) 0) [0,1,2,4] (λx=>F7 s bs k x.1 x.2) (λx=>x.1) (λx=>[(5,.d (.int .i64 ((x.1:Int) - 1)))]) (λ_ x=>hBr s w (O (k+1)) i r++[.arr 1 ((w9 s bs x.1 x.2).map intD)]))]) 7 (z8 (z6 Tryz.f135) 0) [0,1,2,4] (λk=>k<(zg s bs).length) (λk=>(zg s bs).length - k) (λ_=>[]) (λ_ k=>hBr s w (O k) i r++[.arr 1 ((xz s bs k).map intD)]))]) Tryz.func135 rfl ⟨[],_,rfl⟩ (zt (zA mixed (λ_=>zt zz))) ?_;apply @z7 _ (IK Tryz.prog G 76 [II (IT intD (zM s bs)),.int .i64 0] λ(rs:IU D)=>∃(b:Bool),rs=[IL b]/\(b=true->j3 s::j4 w::Hl 109 [.vec 3 (IT GZ (O 0))]::FY (IR (O 0)) 6::d9 i r=pU s w O bs i r)/\(b=false->(ub bs=ub bs/\0<=ub bs/\ub bs<=1000000000/\(↑8:Int)*ub bs<=281474976710656)/\∃(x0:Nat),x0<IR (zg s bs)/\(lN s bs/\ri s/\rh w/\(IT GZ (O 0)=IT GZ (O x0)/\IN)/\IR (O 0)=IR (O x0)/\(i=i/\IN)/\pS r/\h135Bq26/\G8 (IJ (ub bs)) (IP .i64 0)=IT intD (xz s bs x0)/\IN)/\∀(x:Nat),x<IR (zg s bs)->HY Tryz.prog G 35 [F1 7] [j3 s,j4 w,.cells 109 [.vec 3 (IT GZ (O x))],.vec (IR (O x)) 6,ua i,.cells 89 [.d (.str (FX r)),.d (.bool (FW r)),.d (.int .i64 (FZ r)),.d (.sl (IT ID (GT r))),.d (.int .i64 (Hj (G7 r))),.d (.str (HE (G7 r))),.d (.int .i64 (HB (G7 r))),.d (.sl (rf r)),.d (.sl (oX r)),.d (.sl (oW r))],h135Bq19,.arr 1 (IT intD (xz s bs x))] λ(rs:IU D) (H':IU Box)=>∃(l:IU D),rs=[II l]/\∃(l_1:IU D)(l_2:IU D)(l_3:IU D)(l_4:IU D)(l_5:IU D)(l_6:IU D)(l_7:IU D)(n:Nat)(n_1:Int)(s_1:IU UInt8)(b:Bool)(n_2:Int)(l_8:IU D)(n_3:Int)(s_2:IU UInt8)(n_4:Int)(l_9:IU D)(l_10:IU D)(l_11:IU D)(pend:IQ He)(st:HJ)(ds:IU D),H'=[h135Bq11 l_1 l_2 l_3 l_4 l_5,.cells 35 (vU l_6),qo l_7, .vec n 6,ua n_1,iK s_1 b n_2 l_8 n_3 s_2 n_4 l_9 l_10 l_11,pR pend st,.arr 1 ds]/\Gi Tryz.prog G 6 (vU l) (h135Bq11 l_1 l_2 l_3 l_4 l_5::Hl 35 (vU l_6)::qo l_7::FY n 6::ua n_1::oV s_1 b n_2 l_8 n_3 s_2 n_4 l_9 l_10 l_11 pend st) λ(rs:IU D) (H':IU Box)=>∃(b:Bool),rs=[IL b]/\∃(l:IU D)(l_12:IU D)(l_13:IU D)(l_14:IU D)(l_15:IU D)(l_16:IU D)(l_17:IU D)(n:Nat)(n_5:Int)(s_3:IU UInt8)(b_1:Bool)(n_6:Int)(l_18:IU D)(n_7:Int)(s_4:IU UInt8)(n_8:Int)(l_19:IU D)(l_20:IU D)(l_21:IU D)(pend:IQ He)(st:HJ),H'=h135Bq11 l l_12 l_13 l_14 l_15::Hl 35 (vU l_16)::qo l_17::FY n 6::ua n_5::oV s_3 b_1 n_6 l_18 n_7 s_4 n_8 l_19 l_20 l_21 pend st/\((!b)=true->h135Bq11 l l_12 l_13 l_14 l_15::Hl 35 (vU l_16)::qo l_17::FY n 6::ua n_5::oV s_3 b_1 n_6 l_18 n_7 s_4 n_8 l_19 l_20 l_21 pend st=pU s w O bs i r)/\((!b)=false->∃(x0:Nat×Nat),F7 s bs x (Hw x0) (HL x0)/\((G2 6=G2 6/\pT s bs/\lO bs/\F1 7=F1 7/\Hr .i64 ((↑(IR ds):Int) - 1)=yV x0/\IN)/\(l=IT H9 (Hk s)/\l_12=IT H8 (Hg s)/\l_13=IT Hy (Hi s)/\l_14=IT Hx (Hh s)/\l_15=IT H7 (Hn s)/\IN)/\(l_16=IT H6 w/\IN)/\(l_17=qn O x/\IN)/\n=tH O x/\(n_5=i/\IN)/\(s_3=FX r/\b_1=FW r/\n_6=FZ r/\l_18=IT ID (GT r)/\n_7=Hj (G7 r)/\s_4=HE (G7 r)/\n_8=HB (G7 r)/\l_19=rf r/\l_20=oX r/\l_21=oW r/\IN)/\pR pend st=h135Bq19/\ds=wj s bs x0/\IN)/\∀(x_1:Nat×Nat),F7 s bs x (Hw x_1) (HL x_1)->(pQ x_1->oU x_1 s bs)/\(pQ x_1->lK s bs x_1)/\(pQ x_1->0<=yV x_1/\(IT intD (zM s bs))[IJ (yV x_1)]? = some (IP .i64 (lJ s bs x_1)))/\(lI x_1 s bs=true->oU x_1 s bs/\lL x_1 s bs/\∃(y:Nat×Nat),F7 s bs x (Hw y) (HL y)/\Hw y<Hw x_1/\(G2 6=G2 6/\pT s bs/\lO bs/\F1 7=F1 7/\Hr .i64 (yV x_1 - 1)=yV y/\IN)/\ri s/\rh w/\(qn O x=qn O x/\IN)/\tH O x=tH O x/\(i=i/\IN)/\pS r/\h135Bq26/\wS (wj s bs x_1) (IJ (yV x_1)) 0 (G6 [IP .i64 0])=wj s bs y/\IN)/\(lI x_1 s bs=false->(decide (yV x_1<0)=true->j3 s::j4 w::Hl 109 [.vec 3 (qn O x)]::FY (tH O x) 6::d9 i r=pU s w O bs i r)/\(decide (yV x_1<0)=false->oU x_1 s bs/\lK s bs x_1/\oU x_1 s bs/\lL x_1 s bs/\∃(y:Nat),y<IR (zg s bs)/\IR (zg s bs) - y<IR (zg s bs) - x/\lN s bs/\ri s/\rh w/\(qn O x=IT GZ (O y)/\IN)/\tH O x=IR (O y)/\(i=i/\IN)/\pS r/\h135Bq26/\wS (wj s bs x_1) (IJ (yV x_1)) 0 (G6 [Hw (IP .i64 (Hr .i64 (Hf (IB (z1 (wj s bs x_1) (IJ (yV x_1)) 0) default)+1)),IN)])=IT intD (xz s bs y)/\IN)))))
 ·kernel_rfl
 delta j3 j4 RX d9 RU RW pU ub lN pT lO ri rh pS rf oX oW h135Bq26 h135Bq19 h135Bq27 ua h135Bq11 lM vU qo iK pR oV yV qn tH wj pQ oU lL lK lJ lI;refine(N6 (G:=G) (zM s bs) 0 (by rw[tl];omega)).use ⟨_,rfl,λhb0=>?_,λhb0=>?_⟩
 ·obtain⟨b,hm,hc⟩:=tj.1 hb0;rw[er hm hc];rfl
 have hpos:∀b∈bs,0<cN s b:=λb hm=>by
  rcases C4 (cN s b)with h|h
  ·rw[tj.2 ⟨b,hm,h⟩]at hb0;cases hb0
  ·exact h
 refine⟨⟨rfl,by omega,by simp;omega,by simp;omega⟩,0,iZ hpos,?_,λk hk=>?_⟩
 ·and_intros<;>first|rfl|trivial|(simp only[H4,HF];rw[ol hpos,Z2])
 obtain⟨hkl,hkg⟩:=lh hk;refine(hcl k _ (by rw[hkl];omega)).mono ?_;rintro rs H' ⟨rfl,rfl⟩;refine⟨_,rfl,_,_,_,_,_,_,_,_,_,_,_,_,_,_,_,_,_,_,_,_,_,_,rfl,(hY k _ hkg).mono ?_⟩;rintro rs H' ⟨rfl,rfl⟩;refine⟨true,rfl,_,_,_,_,_,_,_,_,_,_,_,_,_,_,_,_,_,_,_,_,_,rfl,λh=>Hu h (by decide),λ_=>⟨(bs.length,k+1),zzn hk,?_,λy hy=>?_⟩⟩
 ·have e1:Hr .i64 (((IT intD (xz s bs k)).length:Nat) - 1:Int)=((bs.length:Nat):Int) - 1:=by rw[H4,hkl];exact zx (by omega) (by omega)
  have e2:IT intD (xz s bs k)=IT intD (w9 s bs bs.length (k+1)):=by rw[om]
  and_intros<;>first|exact e1|exact e2|rfl|trivial
 obtain⟨x1,q⟩:=y;cases x1 with
 |zero =>
  have hl:=zzf hy;refine⟨λh=>by simp at h,λh=>by simp at h,λh=>by simp at h,λh=>by simp at h,λ_=>⟨λ_=>?_,λh=>by simp at h⟩⟩;rw[←hl]
 |succ x =>
  obtain⟨d,c,h1,h2,hg,hs,hx,hcar,hst⟩:=Z1 hpos hsz hy;have ex:((x+1:Nat):Int) - 1=(x:Int):=by omega
  have hol:=ia hy;have hll:(IT intD (w9 s bs (x+1) q)).length=bs.length:=by rw[H4,hol]
  have ei (n:Int):Hf (IB (some (IP .i64 n)) default)=n:=rfl;have hw:Hr .i64 ((d:Int)+1)=((d+1:Nat):Int):=by rw[zx (by omega) (by omega)];rfl
  have hdm:decide ((x:Int)>=0)=true:=by simp
  rw[ex,HF,yK hg,yK hs,ei,ei,hw,hll,hdm];refine⟨λ_=>⟨by omega,hx⟩,λ_=>⟨rfl,trivial⟩,λ_=>⟨by omega,xG hs⟩,λhq=>?_,λhq=>⟨λh=>Hu (G0 h) (by omega),λ_=>?_⟩⟩
  ·have e:d+1=c:=by have:(((d+1:Nat):Int)==(c:Int))=true:=hq;have:=eq_of_beq this;omega
   obtain⟨o1,o2⟩:=hcar e;refine⟨⟨by omega,hx⟩,hx,(x,q / c),o1,by omega,?_⟩;have e1:Hr .i64 ((x:Int) - 1)=(x:Int) - 1:=zx (by omega) (by omega);have e2:=(rn (w9 s bs (x+1) q) x 0).trans (Gv _ o2);and_intros<;>first|exact e1|exact e2|rfl|trivial
  ·have e:d+1≠c:=λe=>by have:(((d+1:Nat):Int)==(c:Int))=false:=hq;rw[e]at this;simp at this
   obtain⟨o1,o2⟩:=hst e;refine⟨⟨by omega,hx⟩,⟨rfl,trivial⟩,⟨by omega,hx⟩,hx,k+1,o1,by omega,?_⟩;have e2:=(rn (w9 s bs (x+1) q) x ((d+1:Nat):Int)).trans (Gv _ o2);and_intros<;>first|exact e2|rfl|trivial
def Sb (a:Sc):D:=Hd [.sl (IT H9 (Hk a)),.sl (IT H8 (Hg a)),.sl (IT Hy (Hi a)),.sl (IT Hx (Hh a)),.sl (IT H7 (Hn a))]
def Sa (a:Sc) (b:IU Pl) (c:IU Ru):IU D:=[II (IT GZ (zh a b c)),.int .i64 (zE a b c)]
def OP (a:Int) (b:Sc) (c:IU Pl) (d:IU Ru):Prop:=[II [],.int .i64 a]=Sa b c d
def XH (a:IU Ru):Prop:=IT Hm a=IT Hm a
def XG (a:Sc) (b:IU Pl) (c:Nat) (d:IU Ru):IU D:=IT GZ (yO a b (HZ c d) 0)
def OO (a:IU Ru) (b:Nat):D:=II (Gl (IB (z1 (IT Hm a) (IJ (b:Int)) (0+1+1+1)) default))
def ON (a:Sc) (b:IU Ru) (c:Nat):IU AV:=[GO [.sl (IT intD (zM a (uz b c)))],.iptr [.sl (IT ID (uz b c))]]
def OM (a:IU Ru) (b:Nat) (c:IU D) (d:Sc) (e:IU D) (f:IU D) (g:IU D) (h:IU D) (i:IU D) (j:IU Pl) (k:IU D) (m:Nat):Prop:= ∃(y:Nat),y<=IR a/\IR a - y<IR a - b/\(XH a/\IA 0 0=IA 0 0/\IA 1 0=IA 1 0/\IA 2 0=IA 2 0/\XH a/\(↑(IR (IT Hm a)):Int)=(↑(IR (IT Hm a)):Int)/\Hr .i64 ((b:Int)+1)=(y:Int)/\IN)/\(c=IT H9 (Hk d)/\e=IT H8 (Hg d)/\f=IT Hy (Hi d)/\g=IT Hx (Hh d)/\h=IT H7 (Hn d)/\IN)/\(i=IT H6 j/\IN)/\(k=XG d j y a/\IN)/\m=IR (yO d j (HZ y a) 0)/\IN
theorem h47 (hM:M.Ok) (hF:M.Fn) (m:Int) (s:Sc) (w:IU Pl) (l:IU Ru) (hs:s.Fits) (hwl:w.length<1099511627776) (hl:l.length<1099511627776) (hw:rwts l<1099511627776):IK Tryz.prog (GA M m) 47 [s.d,xl w,.sl (l.map Hm)] (· = [.sl ((zh s w l).map GZ),.int .i64 (zE s w l)]):=by
 have h83:=h83 (Zh M m) s w hs hwl;have h84:=(g18 hM l hl hw).more (cG M m);have h85:=h85 (G:=GA M m) s l hs hl hw;have h86:=λbs hb=>h86 (G:=GA M m) s bs hs hb;rw[zj,zO]at *;unfold wz at *;refine zu (LL [(11,xH (α:=Nat) Tryz.prog (GA M m) (λx=>LL [(1000013,uT Tryz.prog (GA M m) [3,4,11,12,13] (λ_=>.clo 135 [] [.iptr [wz (zM s (uz l x))],.iptr [.sl ((uz l x).map ID)]]) c47)]) 0 (z8 (z6 Tryz.f47) 0) [2,3,4,11,32,33] (λx=>x<=l.length) (λx=>l.length - x) (λx=>[(34,.d (.int .i64 x))]) (λH x=>[H.getD 0 .dead,H.getD 1 .dead,.cells 109 [.vec 3 ((yO s w (l.take x) 0).map GZ)],.vec (yO s w (l.take x) 0).length 6]))]) Tryz.func47 ⟨_,rfl⟩ (zt (zA mixed (λ_=>zt (xy (by kernel_rfl))))) ?_;apply @z7 _ (IK Tryz.prog (GA M m) 83 [Sb s,.agg [.sl (IT H6 w)]] λ(rs:IU D)=>∃(n:Int),rs=[IP .i64 n]/\((n != 0)=true->OP n s w l)/\((n != 0)=false->IK Tryz.prog (GA M m) 84 [II (IT Hm l)] λ(rs:IU D)=>∃(n:Int)(n_1:Int),rs=[IP .i64 n,.int .i64 n_1]/\((n_1 != 0)=true->OP n_1 s w l)/\((n_1 != 0)=false->IK Tryz.prog (GA M m) 85 [Sb s,.sl (IT Hm l)] λ(rs:IU D)=>∃(b:Bool),rs=[IL b]/\(b=true->[II [],.int .i64 2]=Sa s w l)/\(b=false->∃(x0:Nat),x0<=IR l/\((XH l/\IA 0 0=IA 0 0/\IA 1 0=IA 1 0/\IA 2 0=IA 2 0/\XH l/\(↑(IR (IT Hm l)):Int)=(↑(IR (IT Hm l)):Int)/\(0:Int)=(x0:Int)/\IN)/\ri s/\rh w/\(([]=XG s w x0 l/\IR ([]:IU D)<=IR (yO s w (HZ x0 l) 0))/\IN)/\IN)/\∀(x:Nat),x<=IR l->(decide ((x:Int)<(↑(IR (IT Hm l)):Int))=true->((0:Int)<=(x:Int)/\(IT Hm l)[IJ (x:Int)]? = some (zr [HI,EL,HX .i64,HK,HX .i64,HI,HX .i64,HK,HK,HK] (IT Hm l) (IJ (x:Int))))/\(Fj Tryz.prog (GA M m) 86 [Sb s,OO l x] λ(av:AV)=>av=Gg 135 [] (ON s l x))/\HY Tryz.prog (GA M m) 135 (G2 6::ON s l x) [j3 s,j4 w,.cells 109 [.vec 3 (XG s w x l)],.vec (IR (yO s w (HZ x l) 0)) 6,.cells 3 [.d (.int .i64 (x:Int))],.cells 89 [.d (.str (Gc (IB (z1 (IT Hm l) (IJ (x:Int)) 0) default))),.d (.bool (E8 (IB (z1 (IT Hm l) (IJ (x:Int)) (0+1)) default))),.d (.int .i64 (Hf (IB (z1 (IT Hm l) (IJ (x:Int)) (0+1+1)) default))),.d (OO l x),.d (.int .i64 (Hf (IB (z1 (IT Hm l) (IJ (x:Int)) (0+1+1+1+1)) default))),.d (.str (Gc (IB (z1 (IT Hm l) (IJ (x:Int)) (0+1+1+1+1+1)) default))),.d (.int .i64 (Hf (IB (z1 (IT Hm l) (IJ (x:Int)) (0+1+1+1+1+1+1)) default))),.d (.sl (Gl (IB (z1 (IT Hm l) (IJ (x:Int)) (0+1+1+1+1+1+1+1)) default))),.d (.sl (Gl (IB (z1 (IT Hm l) (IJ (x:Int)) (0+1+1+1+1+1+1+1+1)) default))),.d (.sl (Gl (IB (z1 (IT Hm l) (IJ (x:Int)) (0+1+1+1+1+1+1+1+1+1)) default)))],h135Bq19] λ(x_1:IU D) (H':IU Box)=>∃(l_1:IU D)(l_2:IU D)(l_3:IU D)(l_4:IU D)(l_5:IU D)(l_6:IU D)(l_7:IU D)(n:Nat)(n_2:Int)(s_1:IU UInt8)(b:Bool)(n_3:Int)(l_8:IU D)(n_4:Int)(s_2:IU UInt8)(n_5:Int)(l_9:IU D)(l_10:IU D)(l_11:IU D)(pend:IQ He)(st:HJ),H'=h135Bq11 l_1 l_2 l_3 l_4 l_5::Hl 35 (vU l_6)::qo l_7::FY n 6::ua n_2::oV s_1 b n_3 l_8 n_4 s_2 n_5 l_9 l_10 l_11 pend st/\st≠Do/\(pend=none/\OM l x l_1 s l_2 l_3 l_4 l_5 l_6 w l_7 n∨pend=some FJ/\HD∨pend=some (DV (W9 c47))/\OM l x l_1 s l_2 l_3 l_4 l_5 l_6 w l_7 n))/\(decide ((x:Int)<(↑(IR (IT Hm l)):Int))=false->[II (XG s w x l),.int .i64 0]=Sa s w l)))))
 ·kernel_rfl
 delta Sb OP Sa XH ri j3 j4 RX d9 RU RW pU ub lN pT lO rh pS rf oX oW h135Bq26 h135Bq19 h135Bq27 ua h135Bq11 lM vU qo iK pR oV yV qn tH wj pQ oU lL lK lJ lI XG OO ON OM;have nil0:zE s w l≠0->IT GZ (zh s w l)=[]:=λh=>by unfold zh;rw[IE h];rfl
 refine h83.use ⟨_,rfl,λh=>?_,λh1=>h84.use ⟨_,_,rfl,λh=>?_,λh2=>h85.use ⟨_,rfl,λh=>?_,λh3=>?_⟩⟩⟩
 ·have h':y4 s w≠0:=by simpa using h
  have he:zE s w l=y4 s w:=by unfold zE;rw[Hv h']
  rw[nil0 (by rw[he];exact h'),he]
 ·have h1':y4 s w=0:=by simpa using h1
  have h':(xn l).2≠0:=by simpa using h
  have he:zE s w l=(xn l).2:=by unfold zE;rw[IE (by simp[h1']),Hv h']
  rw[nil0 (by rw[he];exact h'),he]
 ·have h1':y4 s w=0:=by simpa using h1
  have h2':(xn l).2=0:=by simpa using h2
  rw[XQ hs h2']at h;have he:zE s w l=2:=by unfold zE;rw[IE (by simp[h1']),IE (by simp[h2']),Hv h]
  rw[nil0 (by rw[he];decide),he]
 have h1':y4 s w=0:=by simpa using h1
 have h2':(xn l).2=0:=by simpa using h2
 rw[XQ hs h2']at h3;have he:zE s w l=0:=by unfold zE;rw[IE (by simp[h1']),IE (by simp[h2']),h3];rfl
 have hwk:w.length=s.lessons.length:=by
  unfold y4 at h1';split at h1'
  ·rename_i h;exact Hu h1' h
  ·split at h1'
   ·cases h1'
   ·rename_i h;rcases BH (w.length=s.lessons.length)with h4|h4
    ·exact h4
    ·exact Hu (Or.inl h4) h
 obtain⟨g1,-,g3⟩:=lm hs l 0 0 h3 (by decide) (by decide);have hrules:=rules_ok l [] 0 h2';have hall:∀x,(yO s w (l.take x) 0).length<=4096:=λx=>by have:=q8 hs w (l.take x) 0 λr hr=>(g3 r (De hr)).1;have:=kH hs l x;omega
 refine⟨0,GD _,by and_intros<;>first|rfl|trivial|exact GD _,λx hx=>⟨λhlt=>?_,λhge=>?_⟩⟩
 ·simp only[H4,HS]at hlt;obtain⟨r,hr,hm⟩:=zw (l:=l) (x:=x) (by omega);have hty:=PM (hrules r hm);have hg:=g3 r hm;have hT:=fN hs (bs:=r.each) (by omega);have hta:uz l x=r.each:=by unfold uz;rw[hr]
  have hrw:=rwts_mem hm;have hew:r.each.length<=nq r.each:=by unfold nq;omega
  have hrw2:r.wt=r.name.length+nq r.each+r.body.wt:=rfl;have ei (n:Int):Hf (IB (some (IP .i64 n)) default)=n:=rfl;have eb (n:Bool):E8 (IB (some (IL n)) default)=n:=rfl;have es (n:Nm):Gc (IB (some (HW n)) default)=n:=rfl;have el (l:IU D):Gl (IB (some (II l)) default)=l:=rfl;have hkl:∀k,(oF s w l x k).length<=8192:=λk=>by have h5:=fM s w r x ((zg s r.each).take k);have h6:=hall x;rw[oz hr,IU.length_append];rw[FS]at h5;omega
  have hv:0<=(x:Int)/\(IT Hm l)[x]? = some r.d:=⟨by omega,by rw[G5,hr];rfl⟩;rw[HF,sX hr,sD hr,mE hr,mD hr,sC hr,sB hr,sA hr,r6 hr,r7 hr,r8 hr,r9 hr,ei,ei,ei,es,es,eb,el,el,el,el,hta];have hB:=LH (G:=GA M m) s w (λk=>oF s w l x k) x r r.each (by omega) (λb _=>by have:=(rr hs b.sort).2;unfold zU at this;unfold cN;omega) (λk t ht=>?_)
  ·rw[kG hr,cb hr (k:=(zg s r.each).length) (GE _)]at hB;refine⟨hv,h86 r.each (by omega),hB.mono ?_⟩;rintro rs H' rfl;refine⟨_,_,_,_,_,_,_,_,_,_,_,_,_,_,_,_,_,_,_,_,_,rfl,by decide,.inl ⟨rfl,x+1,by omega,by omega,?_⟩⟩;have e1:Hr .i64 ((x:Int)+1)=((x+1:Nat):Int):=by rw[zx (by omega) (by omega)];rfl
   and_intros<;>first|exact e1|rfl|trivial
  ·have htm:=IU.mem_of_getElem? ht;have htl:=u9 htm;have hpos:1<=zR 2097152 s r.each:=by
    rw[←hT];have:k<(zg s r.each).length:=by
     rcases G4 k (zg s r.each).length with h|h
     ·exact h
     ·rw[IU.getElem?_eq_none h]at ht;cases ht
    omega
   have hbr:=xD hs (c:=2097152) (by decide) r.body;have hpre:Pre s w (yo r.each t) r.body:=by refine⟨hty.1,by rw[env_b htl];exact hty.2.1,?_,Vf htm,hwk,by rw[aV htl];omega⟩;have:=Int.mul_le_mul_of_nonneg_right hpos hbr.1;omega
   have hh:=(h87 hF s w r.body hs _ hpre).more (cG M m);have hk1:=hkl k;refine(JQ (G:=GA M m) s w (oF s w l x k) x r t _ (by omega) (by omega) (by omega) hh).mono ?_;rintro rs H' ⟨rfl,rfl⟩;refine⟨rfl,?_⟩;rw[cZ hr ht];cases Fm.sem s w r.body (yo r.each t)<;>simp
 ·simp only[H4,HH]at hge;unfold zh;rw[Gs (by omega),Hv he,he]
end
def XF (p:Pn):IU AV:=[.d (.sl (p.sc.slots.map H9)),.d (.sl (p.sc.rooms.map H8)),.d (.sl (p.sc.people.map Hy)),.d (.sl (p.sc.groups.map Hx)),.d (.sl (p.sc.lessons.map H7)),.d (.sl (p.rules.map Hm)),.d (.sl (p.frozen.map intD))]
def MG (p:Pn) (old w:IU Pl):IU Box:=[.cells 32 (XF p),.cells 35 [.d (.sl (old.map H6))],.cells 35 [.d (.sl (w.map H6))]]
section
variable {G:Nat->IQ (IU D)}{M:Gf}
def XE (a:Nat) (b:Sc) (c:IU Pl) (d:IU Ru):Prop:=a<=IR (zh b c d)
def jP (a:Nat) (b:Sc) (c:IU Pl) (d:IU Ru):IU In:=HZ a (zh b c d)
def eT (a:IU Ru) (b:Nat) (c:Sc) (d:IU Pl):Int:=xC a (jP b c d a)
def SZ (a:Sc) (b:IU Pl):Prop:=(IT H9 (Hk a)=IT H9 (Hk a)/\IT H8 (Hg a)=IT H8 (Hg a)/\IT Hy (Hi a)=IT Hy (Hi a)/\IT Hx (Hh a)=IT Hx (Hh a)/\IT H7 (Hn a)=IT H7 (Hn a)/\IN)/\(IT H6 b=IT H6 b/\IN)/\IN
def cE (a:IU D) (b:Nat):Int:=Hf (IB (z1 a (IJ (b:Int)) 0) default)
def OL (a:IU Ru) (b:IU D) (c:Nat):Bool:=E8 (IB (z1 (IT Hm a) (IJ (cE b c)) (0+1)) default)
def OK (a:Int) (b:IU D) (c:Nat) (d:Nat):Prop:=a=a/\b=b/\(↑(IR b):Int)=(↑(IR b):Int)/\Hr .i64 ((c:Int)+1)=(d:Int)/\IN
theorem h18 (hM:M.Ok) (hF:M.Fn) (m:Int) (s:Sc) (w:IU Pl) (l:IU Ru) (hs:s.Fits) (hwl:w.length<1099511627776) (hl:l.length<1099511627776) (hw:rwts l<1099511627776):IK Tryz.prog (GA M m) 18 [s.d,xl w,.sl (l.map Hm)] (· = [.int .i64 (xC l (zh s w l)),.int .i64 (x9 l (zh s w l)),.int .i64 (zE s w l)]):=by
 have h47:=h47 hM hF m s w l hs hwl hl hw;rw[zj,zO]at *;refine zu (LL [(3,ze (α:=Nat) Tryz.prog (GA M m) L0 0 (z8 (z6 Tryz.f18) 0) [2,8,20,21] (λx=>x<=(zh s w l).length) (λx=>(zh s w l).length - x) (λx=>[(6,.d (.int .i64 (xC l ((zh s w l).take x)))),(7,.d (.int .i64 (x9 l ((zh s w l).take x)))),(22,.d (.int .i64 x))]) (λH _=>H))]) Tryz.func18 ⟨_,rfl⟩ (zt zz) ?_;apply @z7 _ (IK Tryz.prog (GA M m) 47 [Hd [.sl (IT H9 (Hk s)),.sl (IT H8 (Hg s)),.sl (IT Hy (Hi s)),.sl (IT Hx (Hh s)),.sl (IT H7 (Hn s))],.agg [.sl (IT H6 w)],.sl (IT Hm l)] λ(rs:IU D)=>∃(l_1:IU D)(n:Int),rs=[II l_1,.int .i64 n]/\∃(x0:Nat),XE x0 s w l/\((IT Hm l=IT Hm l/\0=eT l x0 s w/\0=x9 l (jP x0 s w l)/\n=n/\l_1=l_1/\(↑(IR l_1):Int)=(↑(IR l_1):Int)/\(0:Int)=(x0:Int)/\IN)/\SZ s w)/\∀(x:Nat),XE x s w l->(decide ((x:Int)<(↑(IR l_1):Int))=true->((0:Int)<=(x:Int)/\l_1[IJ (x:Int)]? = some (zr [HX .i64,HK,HX .i64,HX .i64,HX .i64,HK] l_1 (IJ (x:Int))))/\(0<=cE l_1 x/\(IT Hm l)[IJ (cE l_1 x)]? = some (zr [HI,EL,HX .i64,HK,HX .i64,HI,HX .i64,HK,HK,HK] (IT Hm l) (IJ (cE l_1 x))))/\(OL l l_1 x=true->∃(y:Nat),XE y s w l/\IR (zh s w l) - y<IR (zh s w l) - x/\(IT Hm l=IT Hm l/\Hr .i64 (eT l x s w+1)=eT l y s w/\x9 l (jP x s w l)=x9 l (jP y s w l)/\OK n l_1 x y)/\SZ s w)/\(OL l l_1 x=false->∃(y:Nat),XE y s w l/\IR (zh s w l) - y<IR (zh s w l) - x/\(IT Hm l=IT Hm l/\eT l x s w=eT l y s w/\Hr .i64 (x9 l (jP x s w l)+Hf (IB (z1 (IT Hm l) (IJ (cE l_1 x)) (0+1+1)) default))=x9 l (jP y s w l)/\OK n l_1 x y)/\SZ s w))/\(decide ((x:Int) < (↑(IR l_1):Int))=false->[IP .i64 (eT l x s w),.int .i64 (x9 l (jP x s w l)),.int .i64 n]=[IP .i64 (xC l (zh s w l)),.int .i64 (x9 l (zh s w l)),.int .i64 (zE s w l)]))
 ·kernel_rfl
 delta XE eT jP SZ cE OL OK;have hcl0:x9 l []=0:=by simp[x9]
 have hhl0:xC l []=0:=by simp[xC]
 refine h47.use ⟨_,_,rfl,0,GD _,by and_intros<;>first|rfl|trivial|exact hhl0.symm|exact hcl0.symm,λx hx=>⟨λhlt=>?_,λhge=>?_⟩⟩
 ·simp only[H4,HS]at hlt;obtain⟨b,hb,hbm⟩:=zw (l:=zh s w l) (x:=x) (by omega);have hE:zE s w l=0:=by
   by_cases h:zE s w l=0
   ·exact h
   ·have:zh s w l=[]:=by unfold zh;rw[IE h]
    rw[this]at hb;cases hb
  obtain⟨hlen,hty⟩:=cX hs hE;obtain⟨k,hk,hkl⟩:=sr hbm;obtain⟨r,hr,hm⟩:=zw (l:=l) (x:=k) hkl;have hat:rp l b.rule=r:=by unfold rp;rw[hk,HF,hr];rfl
  have ei (n:Int):Hf (IB (some (IP .i64 n)) default)=n:=rfl;have eb (n:Bool):E8 (IB (some (IL n)) default)=n:=rfl;have hw1:=Sw (hty r hm);have hcb:=aP l ((zh s w l).take x) λy hy=>by
   obtain⟨k2,hk2,hkl2⟩:=sr (De hy);obtain⟨r2,hr2,hm2⟩:=zw (l:=l) (x:=k2) hkl2;have:rp l y.rule=r2:=by unfold rp;rw[hk2,HF,hr2];rfl
   rw[this];exact Sw (hty r2 hm2)
  rw[FS]at hcb;have hhb:0<=xC l ((zh s w l).take x)/\xC l ((zh s w l).take x)<=4096:=by have h1:=IU.countP_le_length (p:=λx:In=>(rp l x.rule).hard) (l:=(zh s w l).take x);rw[FS]at h1;unfold xC;omega
  have hv1:0<=(x:Int)/\(IT GZ (zh s w l))[x]? = some b.d:=⟨by omega,PB hb⟩;have hv2:0<=(k:Int)/\(IT Hm l)[k]? = some r.d:=⟨by omega,by rw[G5,hr];rfl⟩;have e1:Hr .i64 ((x:Int)+1)=((x+1:Nat):Int):=by rw[zx (by omega) (by omega)];rfl
  rw[HF,PC hb,fJ hb,ei,hk,HF,sX hr,mE hr,mD hr,ei,eb];refine⟨hv1,hv2,λhh=>⟨x+1,by omega,by omega,?_⟩,λhh=>⟨x+1,by omega,by omega,?_⟩⟩
  ·have e2:Hr .i64 (xC l ((zh s w l).take x)+1)=xC l ((zh s w l).take (x+1)):=by rw[zx (by omega) (by omega),yr hb,ov,hat,Hv hh]
   have e3:x9 l ((zh s w l).take x)=x9 l ((zh s w l).take (x+1)):=by rw[yr hb,ow,hat,Hv hh,AM]
   and_intros<;>first|exact e1|exact e2|exact e3|rfl|trivial
  ·have e2:xC l ((zh s w l).take x)=xC l ((zh s w l).take (x+1)):=by rw[yr hb,ov,hat,IE (by simp[hh]),AM]
   have e3:Hr .i64 (x9 l ((zh s w l).take x)+r.weight)=x9 l ((zh s w l).take (x+1)):=by rw[zx (by omega) (by omega),yr hb,ow,hat,IE (by simp[hh])]
   and_intros<;>first|exact e1|exact e2|exact e3|rfl|trivial
 ·simp only[H4,HH]at hge;rw[Gs (by omega)]
def Mk (a:Pn) (b:IU Pl):IU D:=[IL (Hw (zJ a b)),.int .i64 (HL (zJ a b))]
theorem h7 (hM:M.Ok) (hF:M.Fn) (m:Int) (p:Pn) (w:IU Pl) (hp:p.Fits) (hw:w.length<1099511627776):IK Tryz.prog (GA M m) 7 [p.d,xl w] (· = [.bool (zJ p w).1,.int .i64 (zJ p w).2]):=by
 have h18:=h18 hM hF m p.sc w p.rules hp.sc hw hp.rules hp.wts;rw[zj,zO]at *;rw[yj];refine zq Tryz.func7 ⟨_,rfl⟩ ?_;apply @z7 _ (IK Tryz.prog (GA M m) 18 [Hd [.sl (IT H9 (Hk (HU p))),.sl (IT H8 (Hg (HU p))),.sl (IT Hy (Hi (HU p))),.sl (IT Hx (Hh (HU p))),.sl (IT H7 (Hn (HU p)))],.agg [.sl (IT H6 w)],.sl (IT Hm (F6 p))] λ(rs:IU D)=>∃(n:Int)(n_1:Int)(n_2:Int),rs=[IP .i64 n,.int .i64 n_1,.int .i64 n_2]/\((n_2 != 0)=true->[IL false,.int .i64 0]=Mk p w)/\((n_2 != 0)=false->[IL (n==0),.int .i64 n_1]=Mk p w))
 ·kernel_rfl
 delta Mk;refine h18.use ⟨_,_,_,rfl,λh=>?_,λh=>?_⟩
 ·have:zJ p w=(false,0):=by unfold zJ;rw[Hv (by simpa using h)]
  rw[this]
 ·unfold zJ;rw[IE (by simpa using h)]
def jO (a:IU Pl):Int:=(↑(IR (IT H6 a)):Int)
def cD (a:Int) (b:IU Pl) (c:IU Pl):Bool:=bif decide (a>=0)then decide (a<if jO b<jO c then jO b else jO c)else false
def cC (a:Int) (b:IU Pl) (c:IU Pl):Prop:=cD a b c=true
def cA (a:Int) (b:IU Pl):Prop:=0<=a/\(IT H6 b)[IJ a]? = some (zr [HX .i64,HX .i64] (IT H6 b) (IJ a))
def rc (a:Pn) (b:IU Pl) (c:IU Pl):IU Box:=[Hl 32 [.d (.sl (IT H9 (Hk (HU a)))),.d (.sl (IT H8 (Hg (HU a)))),.d (.sl (IT Hy (Hi (HU a)))),.d (.sl (IT Hx (Hh (HU a)))),.d (.sl (IT H7 (Hn (HU a)))),.d (.sl (IT Hm (F6 a))),.d (.sl (IT intD (GX a)))],.cells 35 [.d (.sl (IT H6 b))],.cells 35 [.d (.sl (IT H6 c))]]
theorem Ig (p:Pn) (old w:IU Pl) (k:Int):HY Tryz.prog G 50 [.d (.int .i64 k),.ptr 1 0,.ptr 2 0] (MG p old w) (λrs H'=>rs=[.bool (yS old w k)]/\H'=MG p old w):=by
 refine zB Tryz.func50 rfl ⟨_,_,rfl,rfl⟩ ?_;apply @z7 _ ((cC k w old->cA k old)/\(cC k w old->cA k w)/\[IL (bif cD k w old then !(λ(r:Bool)=>Hf (IB (z1 (IT H6 old) (IJ k) 0) default)==Hf (IB (z1 (IT H6 w) (IJ k) 0) default)&&r) ((λ(r:Bool)=>Hf (IB (z1 (IT H6 old) (IJ k) (0+1)) default)==Hf (IB (z1 (IT H6 w) (IJ k) (0+1)) default)&&r) true)else false)]=[IL (yS old w k)]/\rc p old w=rc p old w)
 ·kernel_rfl
 delta cC cD jO cA rc;have ei (n:Int):Hf (IB (some (IP .i64 n)) default)=n:=rfl;rw[H4,H4];by_cases hin:0<=k/\k<old.length/\k<w.length
 ·obtain⟨hz0,hzo,hzw⟩:=hin;obtain⟨a,ha,_⟩:=pB hz0 hzo;obtain⟨b,hb,_⟩:=pB hz0 hzw;rw[vh ha,vh hb,xZ ha,xY ha,xZ hb,xY hb,ei,ei,ei,ei];have e1:yS old w k = !Rh a b:=by unfold yS xk;rw[ha,hb];simp[hz0,hzo,hzw]
  have e2:(bif decide (k>=0)then decide (k<if(w.length:Int)<old.length then(w.length:Int)else old.length)else false)=true:=by have h1:decide (k>=0)=true:=decide_eq_true hz0;have h2:decide (k<if(w.length:Int)<old.length then(w.length:Int)else old.length)=true:=decide_eq_true (by split<;>omega);rw[h1,h2];rfl
  rw[e2,e1];refine⟨λ_=>⟨hz0,vg ha⟩,λ_=>⟨hz0,vg hb⟩,?_,rfl⟩;unfold Rh;simp
 ·have e2:(bif decide (k>=0)then decide (k<if(w.length:Int)<old.length then(w.length:Int)else old.length)else false)=false:=by rw[zn,zy7];intro h;rw[HC,HS,HS]at h;refine hin ⟨h.1,?_⟩;have:=h.2;split at this<;>omega
  have h6:yS old w k=false:=by unfold yS;rw[zy7];intro h;simp at h;exact hin ⟨h.1,h.2.1,h.2.2.1⟩
  rw[e2,h6];exact⟨(λh=>Hu h (by decide)),(λh=>Hu h (by decide)),rfl,rfl⟩
def j5 (a:Nat) (b:IU Int) (c:IU Pl) (d:IU Pl):Prop:=a<=IR b/\yg (λ(z:Int)=>yS c d z) (GM a b) a=yg (λ(z:Int)=>yS c d z) b 0
def h71Mq4:AV:=Gg 50 [] [IA 1 0,.ptr 2 0]
def h71Mq2:Prop:=h71Mq4=h71Mq4
def eS (a:IU Int) (b:Nat):D:=IP .i64 (Hf (IB (z1 (IT intD a) (IJ (b:Int)) 0) default))
def pP (a:IU D) (b:IU D) (c:IU D) (d:IU D) (e:IU D) (f:IU D) (g:IU D) (h:IU D) (i:IU D):IU Box:=[Hl 32 [.d (.sl a),.d (.sl b),.d (.sl c),.d (.sl d),.d (.sl e),.d (.sl f),.d (.sl g)],.cells 35 [.d (.sl h)],.cells 35 [.d (.sl i)]]
theorem JO (p:Pn) (old w:IU Pl) (l:IU Int) (hl:l.length<4611686018427387904):HY Tryz.prog G 71 [.d (.sl (l.map intD)),.clo 50 [] [.ptr 1 0,.ptr 2 0]] (MG p old w) (λrs H'=>rs=[.int .i64 (yg (λz=>yS old w z) l 0)]/\H'=MG p old w):=by
 refine zZ (LL [(2,ze (α:=Nat) Tryz.prog G L0 3 (z8 (z6 Tryz.f71) 0) [0,1,7] (λi=>i<=l.length/\yg (λz=>yS old w z) (l.drop i) i=yg (λz=>yS old w z) l 0) (λi=>l.length - i) (λi=>[(8,.d (.int .i64 i))]) (λH _=>H))]) Tryz.func71 rfl ⟨_,_,rfl,rfl⟩ (zt zz) ?_;apply @z7 _ (∃(x0:Nat),j5 x0 l old w/\((IT intD l=IT intD l/\h71Mq2/\(↑(IR (IT intD l)):Int)=(↑(IR (IT intD l)):Int)/\(0:Int)=(x0:Int)/\IN)/\(IT H9 (Hk (HU p))=IT H9 (Hk (HU p))/\IT H8 (Hg (HU p))=IT H8 (Hg (HU p))/\IT Hy (Hi (HU p))=IT Hy (Hi (HU p))/\IT Hx (Hh (HU p))=IT Hx (Hh (HU p))/\IT H7 (Hn (HU p))=IT H7 (Hn (HU p))/\IT Hm (F6 p)=IT Hm (F6 p)/\IT intD (GX p)=IT intD (GX p)/\IN)/\(IT H6 old=IT H6 old/\IN)/\(IT H6 w=IT H6 w/\IN)/\IN)/\∀(x:Nat),j5 x l old w->(decide ((x:Int)<(↑(IR (IT intD l)): Int))=true->((0:Int)<=(x:Int)/\(IT intD l)[IJ (x:Int)]? = some (eS l x))/\HY Tryz.prog G 50 [IH (eS l x),.ptr 1 0,.ptr 2 0] (rc p old w) λ(rs:IU D) (H':IU Box)=>∃(b:Bool),rs=[IL b]/\∃(l_1:IU D)(l_2:IU D)(l_3:IU D)(l_4:IU D)(l_5:IU D)(l_6:IU D)(l_7:IU D)(l_8:IU D)(l_9:IU D),H'=pP l_1 l_2 l_3 l_4 l_5 l_6 l_7 l_8 l_9/\(b=true->[IP .i64 (x:Int)]=[IP .i64 (yg (λ(z:Int)=>yS old w z) l 0)]/\pP l_1 l_2 l_3 l_4 l_5 l_6 l_7 l_8 l_9=rc p old w)/\(b=false->∃(y:Nat),j5 y l old w/\IR l - y<IR l - x/\(IT intD l=IT intD l/\h71Mq2/\(↑(IR (IT intD l)):Int)=(↑(IR (IT intD l)):Int)/\Hr .i64 ((x:Int)+1)=(y:Int)/\IN)/\(l_1=IT H9 (Hk (HU p))/\l_2=IT H8 (Hg (HU p))/\l_3=IT Hy (Hi (HU p))/\l_4=IT Hx (Hh (HU p))/\l_5=IT H7 (Hn (HU p))/\l_6=IT Hm (F6 p)/\l_7=IT intD (GX p)/\IN)/\(l_8=IT H6 old/\IN)/\(l_9=IT H6 w/\IN)/\IN))/\(decide ((x:Int)<(↑(IR (IT intD l)):Int))=false->[IP .i64 (-1)]=[IP .i64 (yg (λ(z:Int)=>yS old w z) l 0)]/\rc p old w=rc p old w))
 ·kernel_rfl
 delta j5 h71Mq2 h71Mq4 eS rc cC cD jO cA pP;refine⟨0,⟨GD _,rfl⟩,by and_intros<;>first|rfl|trivial,λx hx=>⟨λhlt=>?_,λhge=>?_⟩⟩
 ·simp only[H4,HS]at hlt;obtain⟨z,hz,hm⟩:=zw (l:=l) (x:=x) (by omega);have hx2:=hx.2;rw[ye hz,yg]at hx2;have ei (n:Int):Hf (IB (some (IP .i64 n)) default)=n:=rfl;rw[HF,yK hz,ei];refine⟨⟨by omega,xG hz⟩,(Ig p old w z).mono ?_⟩;rintro rs H' ⟨rfl,rfl⟩;have e1:Hr .i64 ((x:Int)+1)=((x+1:Nat):Int):=by rw[zx (by omega) (by omega)];rfl
  refine⟨_,rfl,_,_,_,_,_,_,_,_,_,rfl,λhb=>⟨?_,rfl⟩,λhb=>⟨x+1,⟨by omega,?_⟩,by omega,by and_intros<;>first|rfl|trivial|exact e1⟩⟩
  ·rw[Hv hb]at hx2;rw[hx2]
  ·rw[IE (by rw[hb];decide)]at hx2;exact hx2
 ·simp only[H4,HH]at hge;have hx2:=hx.2;rw[Fx (by omega),yg]at hx2;exact⟨by rw[hx2],rfl⟩
theorem JN (p:Pn) (old w:IU Pl) (l:IU Int) (hl:l.length<4611686018427387904):HY Tryz.prog G 32 [.d (.sl (l.map intD)),.clo 50 [] [.ptr 1 0,.ptr 2 0]] (MG p old w) (λrs H'=>rs=[.bool (l.any λz=>yS old w z)]/\H'=MG p old w):=by
 refine zB Tryz.func32 rfl ⟨_,_,rfl,rfl⟩ ?_;apply @z7 _ (HY Tryz.prog G 71 [IH (.sl (IT intD l)),h71Mq4] (rc p old w) λ(rs:IU D) (H':IU Box)=>∃(n:Int),rs=[IP .i64 n]/\∃(l_1:IU D)(l_2:IU D)(l_3:IU D)(l_4:IU D)(l_5:IU D)(l_6:IU D)(l_7:IU D)(l_8:IU D)(l_9:IU D),H'=pP l_1 l_2 l_3 l_4 l_5 l_6 l_7 l_8 l_9/\[IL (decide (n>=0))]=[IL (Fk l λ(z:Int)=>yS old w z)]/\pP l_1 l_2 l_3 l_4 l_5 l_6 l_7 l_8 l_9=rc p old w)
 ·kernel_rfl
 delta h71Mq4 j5 h71Mq2 eS rc cC cD jO cA pP;refine(JO (G:=G) p old w l hl).mono ?_;rintro rs H' ⟨rfl,rfl⟩;refine⟨_,rfl,_,_,_,_,_,_,_,_,_,rfl,?_,rfl⟩;rw[tK]
theorem h20 (hM:M.Ok) (m:Int) (p:Pn) (old w:IU Pl) (hp:p.Fits) (ho:old.length<1099511627776) (hw:w.length<1099511627776):IK Tryz.prog (GA M m) 20 [p.d,xl old,xl w] (· = [.bool (xO p old w)]):=by
 have h49:=h49 (G:=GA M m) (Zh M m) p old hp ho;rw[yj]at *;rw[zO,zO]at *;refine zq Tryz.func20 ⟨_,rfl⟩ ?_;apply @z7 _ (IK Tryz.prog (GA M m) 49 [Hd [.sl (IT H9 (Hk (HU p))),.sl (IT H8 (Hg (HU p))),.sl (IT Hy (Hi (HU p))),.sl (IT Hx (Hh (HU p))),.sl (IT H7 (Hn (HU p))),.sl (IT Hm (F6 p)),.sl (IT intD (GX p))],.agg [.sl (IT H6 old)]] λ(rs:IU D)=>∃(b:Bool),rs=[IL b]/\((!b)=true->[IL true]=[IL (xO p old w)])/\((!b)=false->HY Tryz.prog (GA M m) 32 [IH (.sl (IT intD (GX p))),h71Mq4] (rc p old w) λ(rs:IU D) (H':IU Box)=>∃(b:Bool),rs=[IL b]/\∃(l:IU D)(l_1:IU D)(l_2:IU D)(l_3:IU D)(l_4:IU D)(l_5:IU D)(l_6:IU D)(l_7:IU D)(l_8:IU D),H'=pP l l_1 l_2 l_3 l_4 l_5 l_6 l_7 l_8/\[IL !b]=[IL (xO p old w)]))
 ·kernel_rfl
 delta h71Mq4 j5 h71Mq2 eS rc cC cD jO cA pP;refine h49.use ⟨_,rfl,λh=>?_,λh=>?_⟩
 ·have h0:(y4 p.sc old==0)=false:=by simpa using h
  unfold xO;rw[show(y4 p.sc old != 0) = !(y4 p.sc old==0)from rfl,h0];rfl
 ·have h0:(y4 p.sc old==0)=true:=by simpa using h
  have hfz:=hp.frozen;refine(JN p old w p.frozen (by omega)).mono ?_;rintro rs H' ⟨rfl,rfl⟩;refine⟨_,rfl,_,_,_,_,_,_,_,_,_,rfl,?_⟩;unfold xO;rw[show(y4 p.sc old != 0) = !(y4 p.sc old==0)from rfl,h0];have:∀l:IU Int,(!l.any λz=>yS old w z)=l.all λk=>!yS old w k:=λl=>by
   induction l with
   |nil=>rfl
   |cons a l ih=>rw[E5,D8,←ih,AA]
  rw[this];rfl
end
def c13a:He:=unScope (z8 (z6 Tryz.f13) 1)
def tm13a:IU AV:=[.any,.any,.ptr 0 0,.any,.ptr 1 0,.any,.any,.any,.any,.any,.any,.any,.any,.any,.any,.any,.any,.any,.any,.any,.any,.any,.any,.any,.any,.any,.any,.any,.any,.any,.any,.any,.any,.any,.any,.any,.any,.any,.any,.any,.any,.any,.any,.any]
def hA (s:Sc) (out:IU (IU Pl)):IU Box:=[.cells 28 (nh s),.cells 42 [.vec 2 (out.map xl)],.vec out.length 1,.loop tm13a (zY c13a) (zk c13a) (zX c13a) none .ready]
def I7 (s:Sc) (out:IU (IU Pl)):IU Box:=[.cells 28 (nh s),.cells 42 [.vec 2 (out.map xl)],.vec out.length 1,.loop tm13a (zY c13a) (zk c13a) (zX c13a) none .busy]
section
variable {G:Nat->IQ (IU D)}{M:Gf}
def OJ (a:Sc):AV:=Gg 68 [] [GO [.sl (IT H9 (Hk a)),.sl (IT H8 (Hg a)),.sl (IT Hy (Hi a)),.sl (IT Hx (Hh a)),.sl (IT H7 (Hn a))]]
theorem h27 (s:Sc):Fj Tryz.prog G 27 [s.d] (· = .clo 68 [] [.iptr [.sl (s.slots.map H9),.sl (s.rooms.map H8),.sl (s.people.map Hy),.sl (s.groups.map Hx),.sl (s.lessons.map H7)]]):=by
 rw[zj];refine Bv (fn:=Tryz.f27) (code:=z6 Tryz.f27) mixed L0 Tryz.func27 (by kernel_rfl) tw ?_;apply @z7 _ (OJ s=OJ s)
 ·kernel_rfl
 delta OJ;rfl
def mg (a:Sc) (b:IU (IU Pl)) (c:IU Pl):IU Box:=[Hl 28 [.d (.sl (IT H9 (Hk a))),.d (.sl (IT H8 (Hg a))),.d (.sl (IT Hy (Hi a))),.d (.sl (IT Hx (Hh a))),.d (.sl (IT H7 (Hn a)))],.cells 42 [.vec 2 (IT xl b)],.vec (IR b) 1,.loop [IM,.any,.ptr 0 0,.any,.ptr 1 0,.any,.any,.any,.any,.any,.any,.any,.any,.any,.any,.any,.any,.any,.any,.any,.any,.any,.any,.any,.any,.any,.any,.any,.any,.any,.any,.any,.any,.any,.any,.any,.any,.any,.any,.any,.any,.any,.any,.any] (zY c13a) (zk c13a) (zX c13a) none Do,.arr 2 (IT H6 c)]
def eR (a:Sc) (b:IU (IU Pl)) (c:IU Pl):Prop:=mg a b c=mg a b c
theorem JM (s:Sc) (out:IU (IU Pl)) (w:IU Pl) (hw:w.length<1099511627776):HY Tryz.prog G 28 [.msl 4] (I7 s out++[.arr 2 (w.map H6)]) (λrs H'=>rs=[.sl (w.map H6)]/\H'=I7 s out++[.arr 2 (w.map H6)]):=by
 refine zB Tryz.func28 rfl ⟨_,_,rfl,rfl⟩ ?_;apply @z7 _ ((false=true->[II []]=[II (IT H6 w)]/\eR s out w)/\(false=false->FA [] (IT H6 w) (nat_lit 2) (nat_lit 16)/\[II (G6 ([]:IU D)++IT H6 w)]=[II (IT H6 w)]/\eR s out w))
 ·kernel_rfl
 delta eR mg;have hc:=ft w;unfold yH at hc;exact⟨λh=>Hu h (by decide),λ_=>⟨⟨by simpa using hc,by simp;omega⟩,rfl,rfl⟩⟩
def Up (a:Sc):Box:=Hl 28 [.d (.sl (IT H9 (Hk a))),.d (.sl (IT H8 (Hg a))),.d (.sl (IT Hy (Hi a))),.d (.sl (IT Hx (Hh a))),.d (.sl (IT H7 (Hn a)))]
def NN (a:IU D):IU D:=G6 [Hd (G6 [Wz false [II a]])]
def NM (a:IU Pl):IU Box:=[Gz [IM,.any,.ptr 0 0,.any,.ptr 1 0,.any,.any,.any,.any,.any,.any,.any,.any,.any,.any,.any,.any,.any,.any,.any,.any,.any,.any,.any,.any,.any,.any,.any,.any,.any,.any,.any,.any,.any,.any,.any,.any,.any,.any,.any,.any,.any,.any,.any] (zY c13a) (zk c13a) (zX c13a) none GY,.arr 2 (IT H6 a)]
theorem JL (s:Sc) (out:IU (IU Pl)) (w:IU Pl) (hw:w.length<1099511627776) (ho:out.length<1099511627776):Gi Tryz.prog G 3 [.msl 4] (hA s out++[.arr 2 (w.map H6)]) (λrs H'=>rs=[.bool true]/\H'=hA s (out++[w])++[.arr 2 (w.map H6)]):=by
 refine DW (tm:=tm13a) (ps:=zY c13a) (asn:=zk c13a) (bd:=zX c13a) mixed L0 rfl (by kernel_rfl) rfl rfl ⟨_,_,rfl,rfl⟩ (λ_=>ns (by kernel_rfl)) (λ_=>ns (by kernel_rfl)) ?_;apply @z7 _ (HY Tryz.prog G 28 [F1 4] (mg s out w) λ(rs:IU D) (H':IU Box)=>H'=mg s out w/\∃(l:IU D),rs=[II l]/\(IR out=IR (IT xl out)/\1=1/\FA (IT xl out) [Hd [.sl l]] (nat_lit 1) (nat_lit 24))/\[IL true]=[IL true]/\Up s::Hl 42 [.vec 2 (IT xl out++NN l)]::FY (IR (IT xl out)+IR (NN l)) 1::NM w=Up s::Hl 42 [.vec 2 (IT xl (out++[w]))]::FY (IR (out++[w])) 1::NM w)
 ·kernel_rfl
 delta mg eR Up NN NM;refine(JM s out w hw).mono ?_;rintro rs H' ⟨rfl,rfl⟩;have hc:=Xo out;unfold yH at hc;refine⟨rfl,_,rfl,⟨by simp,rfl,⟨by rw[Fb,hc];rfl,by simp;omega⟩⟩,rfl,?_⟩;have e1:IT xl out++[Hd [.sl (w.map H6)]]=IT xl (out++[w]):=by rw[GI];rfl
 have e2:(IT xl out).length+1=(out++[w]).length:=by simp
 rw[←e1,←e2];rfl
def Sc.wk (s:Sc) (k:Nat):IU Pl:=(xz (kw (s.slots.length*s.rooms.length)) (mr s.lessons.length) k).map (rl s.rooms.length)
def Sc.od (s:Sc) (x q:Nat):IU Pl:=(w9 (kw (s.slots.length*s.rooms.length)) (mr s.lessons.length) x q).map (rl s.rooms.length)
def Sc.Odo (s:Sc) (k x q:Nat):Prop:=F7 (kw (s.slots.length*s.rooms.length)) (mr s.lessons.length) k x q
def b6 (a:Sc):IU D:=IT H7 (Hn a)
def eQ (a:Sc):Int:=(↑(IR (b6 a)):Int)
def vT (a:Sc):IU (IU Pl):=yR (Sc.pls a) (IR (Hn a))
def XD (a:Sc):Nat:=IR (vT a)
def j6 (a:Nat) (b:Sc):Prop:=a<XD b
def mf (a:Sc):IU D:=IT H9 (Hk a)
def me (a:Sc):IU D:=IT H8 (Hg a)
def OI (a:Sc):AV:=GO [.sl (mf a),.sl (me a),.sl (IT Hy (Hi a)),.sl (IT Hx (Hh a)),.sl (b6 a)]
def Zg (a:Sc):Prop:=OI a=OI a
def eP (a:Sc):Prop:=G2 3=G2 3/\Zg a/\F1 4=F1 4/\IN
def j7 (a:Sc):Prop:=mf a=mf a/\me a=me a/\IT Hy (Hi a)=IT Hy (Hi a)/\IT Hx (Hh a)=IT Hx (Hh a)/\b6 a=b6 a/\IN
def h68q2:IU AV:=[IM,.any,.ptr 0 0,.any,.ptr 1 0,.any,.any,.any,.any,.any,.any,.any,.any,.any,.any,.any,.any,.any,.any,.any,.any,.any,.any,.any,.any,.any,.any,.any,.any,.any,.any,.any,.any,.any,.any,.any,.any,.any,.any,.any,.any,.any,.any,.any]
def h68q6:Box:=Gz h68q2 (zY c13a) (zk c13a) (zX c13a) none GY
def h68q10:Prop:=h68q6=h68q6
def j8 (a:Sc) (b:Nat):IU D:=IT H6 (Sc.wk a b)
def Uo (a:IU D) (b:IU D) (c:IU D) (d:IU D) (e:IU D):Box:=Hl 28 [.d (.sl a),.d (.sl b),.d (.sl c),.d (.sl d),.d (.sl e)]
def Zf (a:IQ He) (b:HJ):Box:=Gz h68q2 (zY c13a) (zk c13a) (zX c13a) a b
def Un (a:Sc):IU Box:=[Up a,.cells 42 [.vec 2 (IT xl (vT a))],.vec (XD a) 1,h68q6]
def yn (a:Nat×Nat):Int:=(↑(Hw a):Int) - 1
def qm (a:Nat) (b:Sc):IU (IU Pl):=HZ (a+1) (vT b)
def jN (a:Nat) (b:Sc):IU D:=IT xl (qm a b)
def tG (a:Sc) (b:Nat×Nat):IU D:=IT H6 (Sc.od a (Hw b) (HL b))
def jM (a:Sc) (b:Nat×Nat):IU D:=wS (tG a b) (IJ (yn b)) 1 (G6 [Hw (IP .i64 (Hr .i64 (Hf (IB (z1 (tG a b) (IJ (yn b)) 1) default)+1)),IN)])
def Um (a:Nat×Nat) (b:Sc):Prop:=IJ (yn a)<IR (jM b a)
def Ul (a:Nat×Nat) (b:Sc):Prop:=0<=yn a/\Um a b
def eO (a:Nat×Nat):Bool:=decide (yn a<0)
def SY (a:Nat×Nat):Prop:=eO a=true
def Ze (a:Sc) (b:Nat):Prop:=[Up a,.cells 42 [.vec 2 (jN b a)],.vec (IR (qm b a)) 1,h68q6]=Un a
def Zd (a:Sc) (b:Nat) (c:Nat):Prop:=XD a - b<XD a - c
def j9 (a:Sc) (b:Nat×Nat):IU D:=wS (jM a b) (IJ (yn b)) 1 (G6 [IP .i64 0])
def Uk (a:Nat×Nat) (b:Sc):Prop:=IJ (yn a)<IR (j9 b a)
def Uj (a:Nat×Nat) (b:Sc):Prop:=0<=yn a/\Uk a b
def pO (a:Sc) (b:Nat×Nat):IU D:=wS (j9 a b) (IJ (yn b)) 0 (G6 [Hw (IP .i64 (Hr .i64 (Hf (IB (z1 (j9 a b) (IJ (yn b)) 0) default)+1)),IN)])
def Ui (a:Nat×Nat) (b:Sc):Prop:=IJ (yn a)<IR (pO b a)
def Uh (a:Nat×Nat) (b:Sc):Prop:=0<=yn a/\Ui a b
theorem h68 (s:Sc) (hs:yI s=0) (hb:(yR s.pls s.lessons.length).length<=1048576): HY Tryz.prog G 68 [.yld 3,.iptr [.sl (s.slots.map H9),.sl (s.rooms.map H8),.sl (s.people.map Hy),.sl (s.groups.map Hx),.sl (s.lessons.map H7)]] (hA s []) (λ_ H'=>H'=hA s (yR s.pls s.lessons.length)):=by
 refine zZ (LL [(1,xH (α:=Nat) Tryz.prog G (λk=>LL [(3,ze (α:=Nat×Nat) Tryz.prog G L0 4 (z8 (z8 (z6 Tryz.f68) 0) 0) [0,1,3] (λx=>s.Odo k x.1 x.2) (λx=>x.1) (λx=>[(4,.d (.int .i64 ((x.1:Int) - 1)))]) (λ_ x=>hA s ((yR s.pls s.lessons.length).take (k+1))++[.arr 2 ((s.od x.1 x.2).map H6)]))]) 4 (z8 (z6 Tryz.f68) 0) [0,1,3] (λk=>k<(yR s.pls s.lessons.length).length) (λk=>(yR s.pls s.lessons.length).length - k) (λ_=>[]) (λ_ k=>hA s ((yR s.pls s.lessons.length).take k)++[.arr 2 ((s.wk k).map H6)]))]) Tryz.func68 rfl ⟨[],_,rfl⟩ (zt (zA mixed (λ_=>zt zz))) ?_;apply @z7 _ ((eQ s=eQ s/\0<=eQ s/\eQ s<=1000000000/\(↑16:Int)*eQ s<=281474976710656)/\∃(x0:Nat),j6 x0 s/\(eP s/\j7 s/\([]=IT xl (HZ x0 (vT s))/\IN)/\0=IR (HZ x0 (vT s))/\h68q10/\G8 (IJ (eQ s)) (Hd (G6 [IP .i64 0,.int .i64 0]))=j8 s x0/\IN)/\∀(x:Nat),j6 x s->Gi Tryz.prog G 3 [F1 4] [Up s,.cells 42 [.vec 2 (IT xl (HZ x (vT s)))],.vec (IR (HZ x (vT s))) 1,h68q6,.arr 2 (j8 s x)] λ(rs:IU D) (H':IU Box)=>∃(b:Bool),rs=[IL b]/\∃(l:IU D)(l_1:IU D)(l_2:IU D)(l_3:IU D)(l_4:IU D)(l_5:IU D)(n:Nat)(pend:IQ He)(st:HJ)(ds:IU D),H'=[Uo l l_1 l_2 l_3 l_4,.cells 42 [.vec 2 l_5],.vec n 1,Zf pend st,.arr 2 ds]/\((!b)=true->[Uo l l_1 l_2 l_3 l_4,.cells 42 [.vec 2 l_5],.vec n 1,Zf pend st]=Un s)/\((!b)=false->∃(x0:Nat×Nat),Sc.Odo s x (Hw x0) (HL x0)/\((G2 3=G2 3/\Zg s/\F1 4=F1 4/\Hr .i64 ((↑(IR ds):Int) - 1)=yn x0/\IN)/\(l=mf s/\l_1=me s/\l_2=IT Hy (Hi s)/\l_3=IT Hx (Hh s)/\l_4=b6 s/\IN)/\(l_5=jN x s/\IN)/\n=IR (qm x s)/\Zf pend st=h68q6/\ds=tG s x0/\IN)/\∀(x_1:Nat×Nat),Sc.Odo s x (Hw x_1) (HL x_1)->(decide (yn x_1>=0)=true->(0<=yn x_1/\IJ (yn x_1)<IR (tG s x_1))/\(z1 (tG s x_1) (IJ (yn x_1)) 1=some (IP .i64 (Hf (IB (z1 (tG s x_1) (IJ (yn x_1)) 1) default)))/\IN)/\(0<=yn x_1/\IJ (yn x_1)<IR (tG s x_1))/\IJ (yn x_1)<IR (tG s x_1)/\Ul x_1 s/\(z1 (jM s x_1) (IJ (yn x_1)) 1=some (IP .i64 (Hf (IB (z1 (jM s x_1) (IJ (yn x_1)) 1) default)))/\IN)/\(decide (Hf (IB (z1 (jM s x_1) (IJ (yn x_1)) 1) default)<(↑(IR (me s)):Int))=true->(SY x_1->Ze s x)/\(eO x_1=false->∃(y:Nat),j6 y s/\Zd s y x/\eP s/\j7 s/\(jN x s=IT xl (HZ y (vT s))/\IN)/\IR (qm x s)=IR (HZ y (vT s))/\h68q10/\jM s x_1=j8 s y/\IN))/\(decide (Hf (IB (z1 (jM s x_1) (IJ (yn x_1)) 1) default)<(↑(IR (me s)):Int))=false->Ul x_1 s/\Um x_1 s/\Uj x_1 s/\(z1 (j9 s x_1) (IJ (yn x_1)) 0=some (IP .i64 (Hf (IB (z1 (j9 s x_1) (IJ (yn x_1)) 0) default)))/\IN)/\Uj x_1 s/\Uk x_1 s/\Uh x_1 s/\(z1 (pO s x_1) (IJ (yn x_1)) 0=some (IP .i64 (Hf (IB (z1 (pO s x_1) (IJ (yn x_1)) 0) default)))/\IN)/\(decide (Hf (IB (z1 (pO s x_1) (IJ (yn x_1)) 0) default)<(↑(IR (mf s)):Int))=true->(SY x_1->Ze s x)/\(eO x_1=false->∃(y:Nat),j6 y s/\Zd s y x/\eP s/\j7 s/\(jN x s=IT xl (HZ y (vT s))/\IN)/\IR (qm x s)=IR (HZ y (vT s))/\h68q10/\pO s x_1=j8 s y/\IN))/\(decide (Hf (IB (z1 (pO s x_1) (IJ (yn x_1)) 0) default)<(↑(IR (mf s)):Int))=false->Uh x_1 s/\Ui x_1 s/\∃(y:Nat×Nat),Sc.Odo s x (Hw y) (HL y)/\Hw y<Hw x_1/\(G2 3=G2 3/\Zg s/\F1 4=F1 4/\Hr .i64 (yn x_1 - 1)=yn y/\IN)/\j7 s/\(jN x s=jN x s/\IN)/\IR (qm x s)=IR (qm x s)/\h68q10/\wS (pO s x_1) (IJ (yn x_1)) 0 (G6 [IP .i64 0])=tG s y/\IN)))/\(decide (yn x_1>=0)=false->(SY x_1->Ze s x)/\(eO x_1=false->∃(y:Nat),j6 y s/\Zd s y x/\eP s/\j7 s/\(jN x s=IT xl (HZ y (vT s))/\IN)/\IR (qm x s)=IR (HZ y (vT s))/\h68q10/\tG s x_1=j8 s y/\IN))))
 ·kernel_rfl
 delta eQ b6 j6 XD vT eP Zg OI mf me j7 h68q10 h68q6 h68q2 j8 Up mg eR NN NM Uo Zf Un yn jN qm tG Ul Um jM SY eO Ze Zd Uj Uk j9 Uh Ui pO;obtain⟨_,hS1,hS2,hR1,hR2,_,_,hL⟩:=nC hs;have hS:0<s.slots.length:=by omega
 have hR:0<s.rooms.length:=by omega
 have hSR:s.slots.length*s.rooms.length<1099511627776:=by have:=B4 hS2 hR2;omega
 have hwk:∀k,k<(yR s.pls s.lessons.length).length->(yR s.pls s.lessons.length)[k]? = some (s.wk k)/\(s.wk k).length=s.lessons.length:=λk hk=>Ml hk;refine⟨⟨by omega,by rw[H4];omega,by rw[H4];omega⟩,0,NR hS hR,?_,λk hk=>?_⟩
 ·have e1:G8 ((IT H7 s.lessons).length:Int).toNat (Hd [.int .i64 0,.int .i64 0])=IT H6 (s.wk 0):=by unfold Sc.wk;rw[Ol hS hR,Cg,H4,HF];rfl
  and_intros<;>first|exact e1|rfl|trivial
 obtain⟨hkg,hkl⟩:=hwk k hk;have htl:((yR s.pls s.lessons.length).take k).length=k:=by rw[FS];omega
 refine(JL (G:=G) s ((yR s.pls s.lessons.length).take k) (s.wk k) (by omega) (by omega)).mono ?_;rintro rs H' ⟨rfl,rfl⟩;rw[←yr hkg];refine⟨true,rfl,_,_,_,_,_,_,_,_,_,_,rfl,λh=>Hu h (by decide),λ_=>⟨(s.lessons.length,k+1),?_,?_,λy hy=>?_⟩⟩
 ·have h:=zzn (s:=kw (s.slots.length*s.rooms.length)) (bs:=mr s.lessons.length) (k:=k) (by
   have:(yR s.pls s.lessons.length).length=(zg (kw (s.slots.length*s.rooms.length)) (mr s.lessons.length)).length:=by show(yR (t8 _ _) _).length=_;rw[tP,H4]
   omega)
  rw[qz]at h;exact h
 ·have e1:Hr .i64 (((IT H6 (s.wk k)).length:Nat) - 1:Int)=((s.lessons.length:Nat):Int) - 1:=by rw[H4,hkl];exact zx (by omega) (by omega)
  have e2:IT H6 (s.wk k)=IT H6 (s.od s.lessons.length (k+1)):=by have h:=om (s:=kw (s.slots.length*s.rooms.length)) (bs:=mr s.lessons.length) k;rw[qz]at h;unfold Sc.wk Sc.od;rw[h]
  and_intros<;>first|exact e1|exact e2|rfl|trivial
 obtain⟨x1,q⟩:=y;cases x1 with
 |zero =>
  have hl:=zzf hy;have hlen:(yR s.pls s.lessons.length).length=(zg (kw (s.slots.length*s.rooms.length)) (mr s.lessons.length)).length:=by show(yR (t8 _ _) _).length=_;rw[tP,H4]
  have htk:(yR s.pls s.lessons.length).take (k+1)=yR s.pls s.lessons.length:=Gs (by omega);refine⟨λh=>by simp at h,λ_=>⟨λ_=>?_,λh=>by simp at h⟩⟩;rw[htk]
 |succ x =>
  obtain⟨a,b,ha,hb2,hxL,hz,hst1,hst2,hcar⟩:=Mm hS hR hSR hy;have hlenO:(s.od (x+1) q).length=s.lessons.length:=by unfold Sc.od;rw[H4,ia hy,qz]
  change (s.od (x+1) q)[x]? = _ at hz;have ex:((x+1:Nat):Int) - 1=(x:Int):=by omega
  have ei (n:Int):Hf (IB (some (IP .i64 n)) default)=n:=rfl;have hdm:decide ((x:Int)>=0)=true:=by simp
  have hdn:decide ((x:Int)<0)=false:=by simp
  have hwb:Hr .i64 ((b:Int)+1)=((b+1:Nat):Int):=by rw[zx (by omega) (by omega)];rfl
  have hwa:Hr .i64 ((a:Int)+1)=((a+1:Nat):Int):=by rw[zx (by omega) (by omega)];rfl
  have hset:∀p:Pl,((s.od (x+1) q).set x p)[x]? = some p:=λp=>by rw[IU.getElem?_set];simp[hlenO,hxL]
  have hss:∀p r:Pl,((s.od (x+1) q).set x p).set x r=(s.od (x+1) q).set x r:=λp r=>IU.set_set ..;have hsl:∀p:Pl,(IT H6 ((s.od (x+1) q).set x p)).length=s.lessons.length:=λp=>by rw[H4,IU.length_set,hlenO]
  have hl0:(IT H6 (s.od (x+1) q)).length=s.lessons.length:=by rw[H4,hlenO]
  have c1:z1 (IT H6 (s.od (x+1) q)) x 1=some (.int .i64 b):=xY hz;have c2:z1 (IT H6 ((s.od (x+1) q).set x ⟨(a:Int),((b+1:Nat):Int)⟩)) x 1=some (.int .i64 ((b+1:Nat):Int)):=xY (hset _);have c3:z1 (IT H6 ((s.od (x+1) q).set x ⟨(a:Int),0⟩)) x 0=some (.int .i64 a):=xZ (hset _);have c4:z1 (IT H6 ((s.od (x+1) q).set x ⟨((a+1:Nat):Int),0⟩)) x 0=some (.int .i64 ((a+1:Nat):Int)):=xZ (hset _);have p1:wS (IT H6 (s.od (x+1) q)) x 1 [((IP .i64 ((b+1:Nat):Int),IN):D×Prop).1].reverse=IT H6 ((s.od (x+1) q).set x ⟨(a:Int),((b+1:Nat):Int)⟩):=cK (s.od (x+1) q) x _ ((b+1:Nat):Int) hz;have p2:wS (IT H6 ((s.od (x+1) q).set x ⟨(a:Int),((b+1:Nat):Int)⟩)) x 1 [IP .i64 0].reverse=IT H6 ((s.od (x+1) q).set x ⟨(a:Int),0⟩):=(cK _ x _ 0 (hset ⟨(a:Int),((b+1:Nat):Int)⟩)).trans (by rw[hss]);have p3:wS (IT H6 ((s.od (x+1) q).set x ⟨(a:Int),0⟩)) x 0 [((IP .i64 ((a+1:Nat):Int),IN):D×Prop).1].reverse=IT H6 ((s.od (x+1) q).set x ⟨((a+1:Nat):Int),0⟩):=(cJ _ x _ ((a+1:Nat):Int) (hset ⟨(a:Int),0⟩)).trans (by rw[hss]);have p4:wS (IT H6 ((s.od (x+1) q).set x ⟨((a+1:Nat):Int),0⟩)) x 0 [IP .i64 0].reverse=IT H6 ((s.od (x+1) q).set x ⟨0,0⟩):=(cJ _ x _ 0 (hset ⟨((a+1:Nat):Int),0⟩)).trans (by rw[hss]);rw[ex,HF,hdm,hdn,c1,ei,hwb,p1,c2,ei,p2,c3,ei,hwa,p3,c4,ei,p4,hl0,hsl,hsl,hsl,H4,H4];refine⟨λ_=>⟨⟨by omega,hxL⟩,⟨rfl,trivial⟩,⟨by omega,hxL⟩,hxL,⟨by omega,hxL⟩,⟨rfl,trivial⟩,λh1=>⟨λh=>Hu h (by decide),λ_=>?_⟩,λh1=>?_⟩,λh=>Hu h (by decide)⟩
  ·obtain⟨o1,o2⟩:=hst1 (by have:=G0 h1;omega);refine⟨k+1,o1,by have:k+1<(yR s.pls s.lessons.length).length:=o1;omega,?_⟩;have e2:=Gv (IT H6) o2;and_intros<;>first|exact e2|rfl|trivial
  ·have hbR:b+1=s.rooms.length:=by have:=of_decide_eq_false h1;omega
   refine⟨⟨by omega,hxL⟩,hxL,⟨by omega,hxL⟩,⟨rfl,trivial⟩,⟨by omega,hxL⟩,hxL,⟨by omega,hxL⟩,⟨rfl,trivial⟩,λh2=>⟨λh=>Hu h (by decide),λ_=>?_⟩,λh2=>?_⟩
   ·obtain⟨o1,o2⟩:=hst2 hbR (by have:=G0 h2;omega);refine⟨k+1,o1,by have:k+1<(yR s.pls s.lessons.length).length:=o1;omega,?_⟩;have e2:=Gv (IT H6) o2;and_intros<;>first|exact e2|rfl|trivial
   ·obtain⟨q',o1,o2⟩:=hcar hbR (by have:=of_decide_eq_false h2;omega);refine⟨⟨by omega,hxL⟩,hxL,(x,q'),o1,by omega,?_⟩;have e1:Hr .i64 ((x:Int) - 1)=(x:Int) - 1:=zx (by omega) (by omega);have e2:=Gv (IT H6) o2;and_intros<;>first|exact e1|exact e2|rfl|trivial
end
theorem XC (s:Sc) (n:Nat):(yR s.pls n).length=(s.slots.length*s.rooms.length) ^ n:=by rw[Xp];unfold Sc.pls;rw[TJ]
theorem NL {s:Sc}(hS:0<s.slots.length) (hR:0<s.rooms.length) (m:Nat):pn s (m:Int)=decide (m<(s.slots.length*s.rooms.length) ^ s.lessons.length):=by
 have hc:0<s.slots.length*s.rooms.length:=Nat.mul_pos hS hR;unfold pn;have hp:=XC s;generalize s.slots.length*s.rooms.length=c at *;have ht:(m:Int).tdiv (c:Int)=((m / c:Nat):Int):=by rw[zzJ (by omega),zw9]
 rw[ht,Ge,F9,HS,HS,Dr,hp];constructor
 ·rintro (⟨y,hy,h⟩|h)
  ·rw[HS,hp]at h;have h1:m / c<c ^ y:=by omega
   rw[Nat.div_lt_iff_lt_mul hc]at h1;have h3:c ^ (y+1)=c ^ y*c:=zyS c y;rw[←h3]at h1;have h2:c ^ (y+1)<=c ^ s.lessons.length:=Nat.pow_le_pow_right hc (by have:=IU.mem_range.1 hy;omega);omega
  ·omega
 ·intro h;right;omega
section
variable {G:Nat->IQ (IU D)}{M:Gf}
def wE (a:Sc):IU D:=IT H7 (Hn a)
def Zc (a:Sc):IU D:=[II (IT H9 (Hk a)),.sl (IT H8 (Hg a)),.sl (IT Hy (Hi a)),.sl (IT Hx (Hh a)),.sl (wE a)]
def Ug (a:Sc):IU D:=[Hd (Zc a)]
def md (a:Sc) (b:Int):IU D:=[II (IT xl (Hw (y5 a b))),.int .i64 (HL (y5 a b))]
def jz (a:Int) (b:Sc) (c:Nat):Int:=(↑(IJ a / (IR (Hk b)*IR (Hg b)) ^ c):Int)
def Uf (a:Sc):Prop:=IT H9 (Hk a)=IT H9 (Hk a)/\IT H8 (Hg a)=IT H8 (Hg a)/\IT Hy (Hi a)=IT Hy (Hi a)/\IT Hx (Hh a)=IT Hx (Hh a)/\wE a=wE a/\IN
def Ue (a:Sc):Prop:=Uf a/\(([]:IU D)=[]/\IN)/\IN
def Ud (a:Sc):Int:=Hr .i64 ((↑(IR (IT H9 (Hk a))):Int)*(↑(IR (IT H8 (Hg a))):Int))
def h13aq1:IU AV:=[IM,.any,.ptr 0 0,.any,.ptr 1 0,.any,.any,.any,.any,.any,.any,.any,.any,.any,.any,.any,.any,.any,.any,.any,.any,.any,.any,.any,.any,.any,.any,.any,.any,.any,.any,.any,.any,.any,.any,.any,.any,.any,.any,.any,.any,.any,.any,.any]
theorem Mj (hG:∃m,G 4=some [.int .i64 m]) (s:Sc) (most:Int) (hs:s.Fits) (hm:most<=1048576):IK Tryz.prog G 13 [s.d,.int .i64 most] (· = [.sl ((y5 s most).1.map xl),.int .i64 (y5 s most).2]):=by
 have h26:=h26 (G:=G) hG s hs;have h27:=h27 (G:=G) s;rw[zj]at *;refine zu (LL [(8,ze (α:=Nat) Tryz.prog G L0 0 (z8 (z6 Tryz.f13) 0) [1,2,4,5,17,18] (λx=>x<=s.lessons.length) (λx=>s.lessons.length - x) (λx=>[(6,.d (.int .i64 ((most.toNat / (s.slots.length*s.rooms.length) ^ x:Nat):Int))),(19,.d (.int .i64 x))]) (λH _=>H)),(1000013,L2 0 [2,4,5] [] (λH=>[H.getD 0 .dead,.cells 42 [.vec 2 []],.vec 0 1]) (uT Tryz.prog G [2,4] (λds=>.clo 68 [] [.iptr (ds.getD 0 default).cells]) c13a))]) Tryz.func13 ⟨_,rfl⟩ (pA zz (WY (xy (by kernel_rfl)))) ?_;apply @z7 _ (IK Tryz.prog G 26 (Ug s) λ(rs:IU D)=>∃(n:Int),rs=[IP .i64 n]/\((n != 0)=true->[II [],.int .i64 n]=md s most)/\((n != 0)=false->(decide (most<0)=true->[II [],.int .i64 1]=md s most)/\(decide (most<0)=false->∃(x0:Nat),x0<=IR (Hn s)/\((most=most/\IA 0 0=IA 0 0/\IA 1 0=IA 1 0/\n=n/\most=jz most s x0/\wE s=wE s/\(↑(IR (wE s)):Int)=(↑(IR (wE s)):Int)/\(0:Int)=(x0:Int)/\IN)/\Ue s)/\∀(x:Nat),x<=IR (Hn s)->(decide ((x:Int)<(↑(IR (wE s)):Int))=true->(Ud s=0->HD)/\∃(y:Nat),y<=IR (Hn s)/\IR (Hn s) - y<IR (Hn s) - x/\(most=most/\IA 0 0=IA 0 0/\IA 1 0=IA 1 0/\n=n/\Hr .i64 (Int.tdiv (jz most s x) (Ud s))=jz most s y/\wE s=wE s/\(↑(IR (wE s)):Int)=(↑(IR (wE s)):Int)/\Hr .i64 ((x:Int)+1)=(y:Int)/\IN)/\Ue s)/\(decide ((x:Int)<(↑(IR (wE s)):Int))=false->((jz most s x==0)=true->[II [],.int .i64 2]=md s most)/\((jz most s x==0)=false->((IA 0 0=IA 0 0/\IA 1 0=IA 1 0/\n=n/\IN)/\Uf s/\((([]:IU D)=[]/\IR ([]:IU D)<=0)/\IN)/\IN)/\(Fj Tryz.prog G 27 (Ug s) λ(av:AV)=>av=Gg 68 [] [GO (Zc s)])/\HY Tryz.prog G 68 [G2 3,.iptr (Zc s)] [Hl 28 [.d (.sl (IT H9 (Hk s))),.d (.sl (IT H8 (Hg s))),.d (.sl (IT Hy (Hi s))),.d (.sl (IT Hx (Hh s))),.d (.sl (wE s))], .cells 42 [.vec 2 []],.vec 0 1,.loop h13aq1 (zY c13a) (zk c13a) (zX c13a) none GY] λ(x:IU D) (H':IU Box)=>∃(l:IU D)(l_1:IU D)(l_2:IU D)(l_3:IU D)(l_4:IU D)(l_5:IU D)(n_1:Nat)(pend:IQ He)(st:HJ),H'=[Hl 28 [.d (.sl l),.d (.sl l_1),.d (.sl l_2),.d (.sl l_3),.d (.sl l_4)],.cells 42 [.vec 2 l_5],.vec n_1 1,.loop h13aq1 (zY c13a) (zk c13a) (zX c13a) pend st]/\st≠Do/\(pend=none/\[II l_5,.int .i64 n]=md s most∨pend=some FJ/\[II l_5,.int .i64 n]=md s most∨pend=some (DV (W9 c13a))/\[II l_5,.int .i64 n]=md s most))))))
 ·kernel_rfl
 delta Ug Zc wE md jz Ue Uf Ud h13aq1;refine h26.use ⟨_,rfl,λh=>?_,λh=>⟨λh2=>?_,λh2=>?_⟩⟩
 ·rw[y5,Hv (by simpa using h)];rfl
 ·have h0:yI s=0:=by simpa using h
  rw[y5,IE (by simp[h0]),Hv (G0 h2)];rfl
 have h0:yI s=0:=by simpa using h
 have hm0:0<=most:=by have:=of_decide_eq_false h2;omega
 obtain⟨_,c1,c2,c3,c4,_,_,c5⟩:=nC h0;have hN1:1<=s.slots.length*s.rooms.length:=B4 c1 c3;have hN2:s.slots.length*s.rooms.length<=1600:=B4 c2 c4;have hw:IntKind.i64.wrap (((IT H9 s.slots).length:Int)*((IT H8 s.rooms).length:Int))=((s.slots.length*s.rooms.length:Nat):Int):=by rw[H4,H4,←Int.natCast_mul,zx (by omega) (by omega)]
 have hall:y5 s most=if pn s most then([],2)else(yR s.pls s.lessons.length,0):=by rw[y5,IE (by simp[h0]),IE (by omega)]
 have hmn:most=((most.toNat:Nat):Int):=by omega
 have hbad:pn s most=decide (most.toNat<(s.slots.length*s.rooms.length) ^ s.lessons.length):=by rw[←NL (by omega) (by omega),←hmn]
 have hle:most.toNat<=1048576:=by omega
 have h68:=h68 (G:=G) s h0;rw[XC]at h68;rw[hw,h0,hall,hbad];generalize hN:s.slots.length*s.rooms.length=N at *;generalize hmm:most.toNat=m at *;refine⟨0,by omega,?_,λx hx=>⟨λhlt=>⟨λh3=>by omega,x+1,?_,?_,?_⟩,λhge=>?_⟩⟩
 ·have e0:most=((m / N ^ 0:Nat):Int):=by rw[Nat.pow_zero,Nat.div_one];exact hmn
  and_intros<;>first|exact e0|rfl|trivial
 ·have:=G0 hlt;rw[H4]at this;omega
 ·have:=G0 hlt;rw[H4]at this;omega
 ·have hdl:m / N ^ x<=m:=zyk _ _;have hd2:m / N ^ x / N<=m / N ^ x:=zyk _ _;have hL:=hs.lessons;have e1:Hr .i64 (((m / N ^ x:Nat):Int).tdiv (N:Int))=((m / N ^ (x+1):Nat):Int):=by rw[zyS,←Nat.div_div_eq_div_mul];generalize m / N ^ x=z at hdl hd2 ⊢;rw[zzJ (Int.natCast_nonneg z),←zw9];generalize z / N=v at hd2 ⊢;exact zx (by omega) (by omega)
  have e2:Hr .i64 ((x:Int)+1)=((x+1:Nat):Int):=by rw[zx (by omega) (by omega)];rfl
  and_intros<;>first|exact e1|exact e2|rfl|trivial
 ·have hge:=of_decide_eq_false hge;rw[H4]at hge;have hxe:x=s.lessons.length:=by omega
  subst hxe;have hpw:0<N ^ s.lessons.length:=Nat.pow_pos (by omega);refine⟨λh3=>?_,λh3=>⟨by and_intros<;>first|rfl|trivial|exact GE _,h27,?_⟩⟩
  ·have h4:((m / N ^ s.lessons.length:Nat):Int)=0:=eq_of_beq h3;have h5:m<N ^ s.lessons.length:=by
    rcases G4 m (N ^ s.lessons.length)with h|h
    ·exact h
    ·have:=Nat.div_pos h hpw;omega
   rw[Hv (decide_eq_true h5)];rfl
  ·have h4:¬ m<N ^ s.lessons.length:=λh5=>by rw[Nat.div_eq_of_lt h5]at h3;cases h3
   refine(h68 (by omega)).mono ?_;rintro rs H' rfl;rw[IE (by rw[HS];exact h4)];exact⟨_,_,_,_,_,_,_,_,_,rfl,by decide,.inl ⟨rfl,rfl⟩⟩
end
def c11a:He:=unScope (z8 (z6 Tryz.f11) 0)
def tm11a:IU AV:=[.any,.any,.ptr 0 0,.ptr 1 0,.ptr 2 0,.any,.any,.any,.any,.any]
def hN (p:Pn) (old:IU Pl):IU Box:=[.cells 32 (XF p),.cells 35 [.d (.sl (old.map H6))],.cells 4 [.d (.bool false)],.loop tm11a (zY c11a) (zk c11a) (zX c11a) none .ready]
def JK (p:Pn) (old:IU Pl):IU Box:=[.cells 32 (XF p),.cells 35 [.d (.sl (old.map H6))],.cells 4 [.d (.bool false)],.loop tm11a (zY c11a) (zk c11a) (zX c11a) (some .ret) .done]
def c9a:He:=unScope (z8 (z6 Tryz.f9) 0)
def tm9a:IU AV:=[.any,.any,.any,.ptr 0 0,.ptr 1 0,.ptr 2 0,.ptr 3 0,.any,.ptr 4 0,.ptr 5 0,.any,.any,.any,.any,.any,.any,.any,.any,.any,.any,.any,.any,.any,.any,.any,.any,.any,.any,.any,.any,.any,.any,.any,.any,.any,.any,.any,.any,.any,.any,.any,.any,.any,.any,.any,.any,.any,.any,.any,.any,.any,.any]
def MF (p:Pn) (old w:IU Pl):IU Box:=[.cells 32 (XF p),.cells 35 [.d (.sl (old.map H6))],.cells 35 [.d (.sl (w.map H6))],.cells 4 [.d (.bool false)],.cells 3 [.d (.int .i64 (zJ p w).2)],.cells 3 [.d (.int .i64 (xu p old w))],.loop tm9a (zY c9a) (zk c9a) (zX c9a) none .ready]
def Mi (p:Pn) (old w:IU Pl):IU Box:=[.cells 32 (XF p),.cells 35 [.d (.sl (old.map H6))],.cells 35 [.d (.sl (w.map H6))],.cells 4 [.d (.bool false)],.cells 3 [.d (.int .i64 (zJ p w).2)],.cells 3 [.d (.int .i64 (xu p old w))],.loop tm9a (zY c9a) (zk c9a) (zX c9a) (some .ret) .done]
def vL (_:IU Pl):Bool:=true
theorem LG (b:Bool) (X Y:IU Box):∃rs H',(b=true->rs=[IL false]/\H'=X)/\(b=false->rs=[IL true]/\H'=Y):=by
 cases b
 ·refine⟨[.bool true],Y,⟨λh=>?_,λ_=>⟨rfl,rfl⟩⟩⟩;cases h
 ·refine⟨[.bool false],X,⟨λ_=>⟨rfl,rfl⟩,λh=>?_⟩⟩;cases h
theorem M3 (b:Bool) (X Y:IU Box):∃(rs:IU D) (H':IU Box),rs=[]/\(b=true->H'=X)/\(b=false->H'=Y):=by
 cases b
 ·refine⟨[],Y,rfl,λh=>?_,λ_=>rfl⟩;cases h
 ·refine⟨[],X,rfl,λ_=>rfl,λh=>?_⟩;cases h
section
variable {G:Nat->IQ (IU D)}{M:Gf}
def eN (a:Pn) (b:IU Pl):AV:=Gg 52 [] [GO [.sl (IT H9 (Hk (HU a))),.sl (IT H8 (Hg (HU a))),.sl (IT Hy (Hi (HU a))),.sl (IT Hx (Hh (HU a))),.sl (IT H7 (Hn (HU a))),.sl (IT Hm (F6 a)),.sl (IT intD (GX a))],.iptr [.sl (IT H6 b)]]
theorem h22 (p:Pn) (old:IU Pl):Fj Tryz.prog G 22 [p.d,xl old] (· = .clo 52 [] [.iptr [.sl (p.sc.slots.map H9),.sl (p.sc.rooms.map H8),.sl (p.sc.people.map Hy),.sl (p.sc.groups.map Hx),.sl (p.sc.lessons.map H7),.sl (p.rules.map Hm),.sl (p.frozen.map intD)],.iptr [.sl (old.map H6)]]):=by
 rw[yj,zO];refine Bv (fn:=Tryz.f22) (code:=z6 Tryz.f22) mixed L0 Tryz.func22 (by kernel_rfl) tw ?_;apply @z7 _ (eN p old=eN p old)
 ·kernel_rfl
 delta eN;rfl
def Zb (a:Pn) (b:IU Pl):IU Box:=[Hl 32 [.d (.sl (IT H9 (Hk (HU a)))),.d (.sl (IT H8 (Hg (HU a)))),.d (.sl (IT Hy (Hi (HU a)))),.d (.sl (IT Hx (Hh (HU a)))),.d (.sl (IT H7 (Hn (HU a)))),.d (.sl (IT Hm (F6 a))),.d (.sl (IT intD (GX a)))],.cells 35 [.d (.sl (IT H6 b))],.cells 4 [.d (.bool false)],.loop [IM,.any,.ptr 0 0,.ptr 1 0,.ptr 2 0,.any,.any,.any,.any,.any] (zY c11a) (zk c11a) (zX c11a) (some FJ) Dn]
theorem JJ (p:Pn) (old v:IU Pl) (n:Int):Gi Tryz.prog G 3 [.d (xl v),.d (.int .i64 n)] (hN p old) (λrs H'=>rs=[.bool false]/\H'=JK p old):=by
 refine DW (tm:=tm11a) (ps:=zY c11a) (asn:=zk c11a) (bd:=zX c11a) mixed L0 rfl (by kernel_rfl) rfl rfl ⟨_,_,rfl,rfl⟩ (λ_=>ns (by kernel_rfl)) (λ_=>ns (by kernel_rfl)) ?_;apply @z7 _ ([IL false]=[IL false]/\Zb p old=Zb p old)
 ·kernel_rfl
 delta Zb;exact⟨rfl,rfl⟩
def eM (a:Pn) (b:IU Pl) (c:IU Pl) (d:Int) (e:IU Pl):Bool:=bif decide (HL (zJ a b)<HL (zJ a c))then true else bif HL (zJ a b)==HL (zJ a c)then decide (d<xu a e c)else false
def yBeq4:IU D:=[IL false]
def lH (a:Pn):Box:=Hl 32 [.d (.sl (IT H9 (Hk (HU a)))),.d (.sl (IT H8 (Hg (HU a)))),.d (.sl (IT Hy (Hi (HU a)))),.d (.sl (IT Hx (Hh (HU a)))),.d (.sl (IT H7 (Hn (HU a)))),.d (.sl (IT Hm (F6 a))),.d (.sl (IT intD (GX a)))]
def qY (a:IU Pl):Box:=Hl 35 [.d (.sl (IT H6 a))]
def eL (a:Pn) (b:IU Pl):Box:=Hl 3 [.d (.int .i64 (HL (zJ a b)))]
def yBeq8:IU AV:=[IM,.any,.any,.ptr 0 0,.ptr 1 0,.ptr 2 0,.ptr 3 0,.any,.ptr 4 0,.ptr 5 0,.any,.any,.any,.any,.any,.any,.any,.any,.any,.any,.any,.any,.any,.any,.any,.any,.any,.any,.any,.any,.any,.any,.any,.any,.any,.any,.any,.any,.any,.any,.any,.any,.any,.any,.any,.any,.any,.any,.any,.any,.any,.any]
def pN (a:Pn) (b:IU Pl) (c:IU Pl):IU Box:=[lH a,qY b,qY c,.cells 4 [.d (.bool false)],eL a c,.cells 3 [.d (.int .i64 (xu a b c))],.loop yBeq8 (zY c9a) (zk c9a) (zX c9a) (some FJ) Dn]
def yBeq2:IU D:=[IL true]
def sq (a:Pn) (b:IU Pl) (c:IU Pl):IU Box:=[lH a,qY b,qY c,.cells 4 [.d (.bool false)],eL a c,.cells 3 [.d (.int .i64 (xu a b c))],.loop yBeq8 (zY c9a) (zk c9a) (zX c9a) none GY]
theorem LF (hG:∃m,G 4=some [.int .i64 m]) (p:Pn) (old w v:IU Pl) (hp:p.Fits) (ho:old.length<1099511627776) (hv:v.length<1099511627776):Gi Tryz.prog G 6 [.d (xl v),.d (.int .i64 (zJ p v).2)] (MF p old w) (λrs H'=>(yA p old w v=true->rs=[.bool false]/\H'=Mi p old w)/\(yA p old w v=false->rs=[.bool true]/\H'=MF p old w)):=by
 have h21:=h21 (G:=G) hG p old v hp ho hv;rw[yj]at *;rw[zO,zO]at *;refine DW (tm:=tm9a) (ps:=zY c9a) (asn:=zk c9a) (bd:=zX c9a) mixed L0 rfl (by kernel_rfl) rfl rfl (LG _ _ _) (λ_=>ns (by kernel_rfl)) (λ_=>ns (by kernel_rfl)) ?_;apply @z7 _ (IK Tryz.prog G 21 [Hd [.sl (IT H9 (Hk (HU p))),.sl (IT H8 (Hg (HU p))),.sl (IT Hy (Hi (HU p))),.sl (IT Hx (Hh (HU p))),.sl (IT H7 (Hn (HU p))),.sl (IT Hm (F6 p)),.sl (IT intD (GX p))],.agg [.sl (IT H6 old)],.agg [.sl (IT H6 v)]] λ(rs:IU D)=>∃(n:Int),rs=[IP .i64 n]/\(eM p v w n old=true->(yA p old w v=true->yBeq4=yBeq4/\pN p old w=pN p old w)/\(yA p old w v=false->yBeq4=yBeq2/\pN p old w=sq p old w))/\(eM p v w n old=false->(yA p old w v=true->yBeq2=yBeq4/\sq p old w=pN p old w)/\(yA p old w v=false->yBeq2=yBeq2/\sq p old w=sq p old w)))
 ·kernel_rfl
 delta eM yBeq4 pN lH qY eL yBeq8 yBeq2 sq;refine h21.use ⟨_,rfl,?_⟩;have e:(bif decide ((zJ p v).2<(zJ p w).2)then true else bif (zJ p v).2==(zJ p w).2 then decide (xu p old v<xu p old w)else false)=yA p old w v:=by unfold yA;simp only[zH,zn]
 rw[e];refine⟨λh=>⟨λ_=>⟨rfl,rfl⟩,λh2=>?_⟩,λh=>⟨λh2=>?_,λ_=>⟨rfl,rfl⟩⟩⟩
 ·rw[h]at h2;cases h2
 ·rw[h]at h2;cases h2
def wf (a:Pn):IU D:=IT H9 (Hk (HU a))
def we (a:Pn):IU D:=IT H8 (Hg (HU a))
def uw (a:Pn):IU D:=IT Hy (Hi (HU a))
def uv (a:Pn):IU D:=IT Hx (Hh (HU a))
def uu (a:Pn):IU D:=IT H7 (Hn (HU a))
def sp (a:Nat) (b:Pn) (c:IU Pl):Prop:=a<=IR (Hw (y5 (HU b) 4096))/\(Fk (HZ a (Hw (y5 (HU b) 4096))) λ(v:IU Pl)=>vt b c v&&vL v)=false
def ut (a:Pn):IU D:=[II (wf a),.sl (we a),.sl (uw a),.sl (uv a),.sl (uu a),.sl (IT Hm (F6 a)),.sl (IT intD (GX a))]
def so (a:Pn):AV:=GO (ut a)
def pM (a:Pn):Prop:=so a=so a
def h52Nq3:IU AV:=[IM,.any,.ptr 0 0,.ptr 1 0,.ptr 2 0,.any,.any,.any,.any,.any]
def h52Nq12:Box:=Gz h52Nq3 (zY c11a) (zk c11a) (zX c11a) none GY
def oT (a:Pn) (b:IU Pl):Prop:=(wf a=wf a/\we a=we a/\uw a=uw a/\uv a=uv a/\uu a=uu a/\IT Hm (F6 a)=IT Hm (F6 a)/\IT intD (GX a)=IT intD (GX a)/\IN)/\(IT H6 b=IT H6 b/\IN)/\(false=false/\IN)/\h52Nq12=h52Nq12/\IN
def wM (a:IU D) (b:Nat):D:=zr [HK] a (IJ (b:Int))
def uo (a:Pn) (b:IU Pl):IU Box:=[lH a,qY b,.cells 4 [.d (.bool false)],h52Nq12]
def pL (a:IU D) (b:IU D) (c:IU D) (d:IU D) (e:IU D) (f:IU D) (g:IU D) (h:IU D) (i:Bool) (j:IQ He) (k:HJ):IU Box:=[Hl 32 [.d (.sl a),.d (.sl b),.d (.sl c),.d (.sl d),.d (.sl e),.d (.sl f),.d (.sl g)],.cells 35 [.d (.sl h)],.cells 4 [.d (.bool i)],.loop h52Nq3 (zY c11a) (zk c11a) (zX c11a) j k]
def jy (a:Pn) (b:IU Pl) (c:IU D) (d:Nat) (e:Nat):Prop:=G2 3=G2 3/\pM a/\GO [.sl (IT H6 b)]=GO [.sl (IT H6 b)]/\c=c/\(↑(IR c):Int)=(↑(IR c):Int)/\Hr .i64 ((d:Int)+1)=(e:Int)/\IN
def jx (a:Pn) (b:IU Pl):Prop:=([]:IU D)=[]/\((Fk (Hw (y5 (HU a) 4096)) λ(v:IU Pl)=>vt a b v&&vL v)=true->uo a b=Zb a b)/\((Fk (Hw (y5 (HU a) 4096)) λ(v:IU Pl)=>vt a b v&&vL v)=false->uo a b=uo a b)
theorem JI (hM:M.Ok) (hF:M.Fn) (m:Int) (p:Pn) (old:IU Pl) (hp:p.Fits) (ho:old.length<1099511627776) (hY:∀v:IU Pl,v.length<1099511627776->Gi Tryz.prog (GA M m) 3 [.d (xl v),.d (.int .i64 (zJ p v).2)] (hN p old) (λrs H'=>(vL v=true->rs=[.bool false]/\H'=JK p old)/\(vL v=false->rs=[.bool true]/\H'=hN p old))): HY Tryz.prog (GA M m) 52 [.yld 3,.iptr [.sl (p.sc.slots.map H9),.sl (p.sc.rooms.map H8),.sl (p.sc.people.map Hy),.sl (p.sc.groups.map Hx),.sl (p.sc.lessons.map H7),.sl (p.rules.map Hm),.sl (p.frozen.map intD)],.iptr [.sl (old.map H6)]] (hN p old) (λrs H'=>rs=[]/\(((y5 p.sc 4096).1.any λv=>vt p old v&&vL v)=true->H'=JK p old)/\(((y5 p.sc 4096).1.any λv=>vt p old v&&vL v)=false->H'=hN p old)):=by
 have h13:=Mj (G:=GA M m) (Zh M m) p.sc 4096 hp.sc (by decide);have h7:=λv hv=>h7 hM hF m p v hp hv;have h20:=λv hv=>h20 hM m p old v hp ho hv;rw[yj]at *;rw[zj,zO]at *;refine zZ (LL [(2,ze (α:=Nat) Tryz.prog (GA M m) L0 4 (z8 (z6 Tryz.f52) 0) [0,1,2,16,17] (λi=>i<=(y5 p.sc 4096).1.length/\(((y5 p.sc 4096).1.take i).any λv=>vt p old v&&vL v)=false) (λi=>(y5 p.sc 4096).1.length - i) (λi=>[(18,.d (.int .i64 i))]) (λH _=>H))]) Tryz.func52 rfl (M3 _ _ _) (zt zz) ?_;apply @z7 _ (IK Tryz.prog (GA M m) 13 [Hd [.sl (wf p),.sl (we p),.sl (uw p),.sl (uv p),.sl (uu p)],.int .i64 4096] λ(rs:IU D)=>∃(l:IU D)(n:Int),rs=[II l,.int .i64 n]/\∃(x0:Nat),sp x0 p old/\((G2 3=G2 3/\pM p/\GO [.sl (IT H6 old)]=GO [.sl (IT H6 old)]/\l=l/\(↑(IR l):Int)=(↑(IR l):Int)/\(0:Int)=(x0:Int)/\IN)/\oT p old)/\∀(x:Nat),sp x p old->(decide ((x:Int)<(↑(IR l):Int))=true->((0:Int)<=(x:Int)/\l[IJ (x:Int)]? = some (wM l x))/\IK Tryz.prog (GA M m) 7 [Hd (ut p),wM l x] λ(rs:IU D)=>∃(b:Bool)(n:Int),rs=[IL b,.int .i64 n]/\IK Tryz.prog (GA M m) 20 [Hd (ut p),.agg [.sl (IT H6 old)],wM l x] λ(rs:IU D)=>∃(b_1:Bool),rs = [IL b_1]/\((bif b then b_1 else false)=true->Gi Tryz.prog (GA M m) 3 [IH (wM l x),.d (.int .i64 n)] (uo p old) λ(rs:IU D) (H':IU Box)=>∃(b_2:Bool),rs=[IL b_2]/\∃(l_1:IU D)(l_2:IU D)(l_3:IU D)(l_4:IU D)(l_5:IU D)(l_6:IU D)(l_7:IU D)(l_8:IU D)(b_3:Bool)(pend:IQ He)(st:HJ),H'=pL l_1 l_2 l_3 l_4 l_5 l_6 l_7 l_8 b_3 pend st/\((bif bif b then b_1 else false then !b_2 else false)=true->([]:IU D)=[]/\((Fk (Hw (y5 (HU p) 4096)) λ(v:IU Pl)=>vt p old v&&vL v)=true->pL l_1 l_2 l_3 l_4 l_5 l_6 l_7 l_8 b_3 pend st=Zb p old)/\((Fk (Hw (y5 (HU p) 4096)) λ(v:IU Pl)=>vt p old v&&vL v)=false->pL l_1 l_2 l_3 l_4 l_5 l_6 l_7 l_8 b_3 pend st=uo p old))/\((bif bif b then b_1 else false then !b_2 else false)=false->∃(y:Nat),sp y p old/\IR (Hw (y5 (HU p) 4096)) - y<IR (Hw (y5 (HU p) 4096)) - x/\jy p old l x y/\(l_1=wf p/\l_2=we p/\l_3=uw p/\l_4=uv p/\l_5=uu p/\l_6=IT Hm (F6 p)/\l_7=IT intD (GX p)/\IN)/\(l_8=IT H6 old/\IN)/\(b_3=false/\IN)/\Gz h52Nq3 (zY c11a) (zk c11a) (zX c11a) pend st=h52Nq12/\IN))/\((bif b then b_1 else false)=true∨((bif bif b then b_1 else false then !true else false)=true->jx p old)/\((bif bif b then b_1 else false then !true else false)=false->∃(y:Nat),sp y p old/\IR (Hw (y5 (HU p) 4096)) - y<IR (Hw (y5 (HU p) 4096)) - x/\jy p old l x y/\oT p old)))/\(decide ((x:Int) < (↑(IR l):Int))=false->jx p old))
 ·kernel_rfl
 delta wf we uw uv uu sp pM so ut oT h52Nq12 h52Nq3 wM uo lH eM yBeq4 pN qY eL yBeq8 yBeq2 sq pL Zb jy jx;refine h13.use ⟨_,_,rfl,0,⟨by omega,rfl⟩,by and_intros<;>first|rfl|trivial,λx hx=>⟨λhlt=>?_,λhge=>?_⟩⟩
 ·simp only[H4,HS]at hlt;obtain⟨v,hz,hm⟩:=zw (l:=(y5 p.sc 4096).1) (x:=x) (by omega);have hsl:=hp.sc.lessons;have hv:v.length<1099511627776:=by rw[ll hm];exact hsl
  have hal:=lk (s:=p.sc) (m:=4096) (by decide);have e1:Hr .i64 ((x:Int)+1)=((x+1:Nat):Int):=by rw[zx (by omega) (by omega)];rfl
  have hnext:(vt p old v&&vL v)=false->(((y5 p.sc 4096).1.take (x+1)).any λv=>vt p old v&&vL v)=false:=λh=>by rw[yr hz,B2,hx.2,E5,BJ,h];rfl
  rw[HF,fV hz];refine⟨⟨by omega,fU hz⟩,(h7 v hv).use ⟨_,_,rfl,(h20 v hv).use ⟨_,rfl,?_⟩⟩⟩;have hok:vt p old v=(bif (zJ p v).1 then xO p old v else false):=by unfold vt;rw[zn]
  rw[←hok];cases hc:vt p old v with
  |false =>
   refine⟨λh=>Hu h (by decide),.inr ⟨λh=>Hu h (by decide),λ_=>⟨x+1,⟨by omega,hnext (by rw[hc];rfl)⟩,by omega,by and_intros<;>first|exact e1|rfl|trivial⟩⟩⟩
  |true =>
   refine⟨λ_=>(hY v hv).mono ?_,.inl rfl⟩;intro rs H' hq;cases hst:vL v with
   |true =>
    obtain⟨rfl,rfl⟩:=hq.1 hst;have hany:((y5 p.sc 4096).1.any λv=>vt p old v&&vL v)=true:=Dr.2 ⟨v,hm,by rw[hc,hst];rfl⟩;refine⟨false,rfl,_,_,_,_,_,_,_,_,_,_,_,rfl,λ_=>⟨rfl,λ_=>rfl,λhA=>?_⟩,λh=>Hu h (by decide)⟩;rw[hany]at hA;cases hA
   |false =>
    obtain⟨rfl,rfl⟩:=hq.2 hst;exact⟨true,rfl,_,_,_,_,_,_,_,_,_,_,_,rfl,λh=>Hu h (by decide),λ_=>⟨x+1,⟨by omega,hnext (by rw[hc,hst];rfl)⟩,by omega,by and_intros<;>first|exact e1|rfl|trivial⟩⟩
 ·simp only[H4,HH]at hge;have hx2:=hx.2;rw[Gs (by omega)]at hx2;rw[hx2];exact⟨rfl,λh=>Hu h (by decide),λ_=>rfl⟩
def jw (a:Nat) (b:Pn) (c:IU Pl) (d:IU Pl):Prop:=a<=IR (Hw (y5 (HU b) 4096))/\(Fk (HZ a (Hw (y5 (HU b) 4096))) λ(v:IU Pl)=>vt b c v&&yA b c d v)=false
def h52Bq4:Box:=Gz yBeq8 (zY c9a) (zk c9a) (zX c9a) none GY
def Za (a:Pn) (b:IU Pl) (c:IU Pl):Prop:=(wf a=wf a/\we a=we a/\uw a=uw a/\uv a=uv a/\uu a=uu a/\IT Hm (F6 a)=IT Hm (F6 a)/\IT intD (GX a)=IT intD (GX a)/\IN)/\(IT H6 b=IT H6 b/\IN)/\(IT H6 c=IT H6 c/\IN)/\(false=false/\IN)/\(HL (zJ a c)=HL (zJ a c)/\IN)/\(xu a b c=xu a b c/\IN)/\h52Bq4=h52Bq4/\IN
def mc (a:Int):IU AV:=[IH (.int .i64 a)]
def jv (a:IU D) (b:IU D) (c:IU D) (d:IU D) (e:IU D) (f:IU D) (g:IU D):Box:=Hl 32 [.d (.sl a),.d (.sl b),.d (.sl c),.d (.sl d),.d (.sl e),.d (.sl f),.d (.sl g)]
def ju (a:IU D) (b:IU D) (c:Bool) (d:Int) (e:Int) (f:IQ He) (g:HJ):IU Box:=[Hl 35 [.d (.sl a)],.cells 35 [.d (.sl b)],.cells 4 [.d (.bool c)],.cells 3 (mc d),.cells 3 (mc e),.loop yBeq8 (zY c9a) (zk c9a) (zX c9a) f g]
def ZZ (a:Pn) (b:IU Pl) (c:IU D) (d:Nat) (e:Nat):Prop:=G2 6=G2 6/\pM a/\GO [.sl (IT H6 b)]=GO [.sl (IT H6 b)]/\c=c/\(↑(IR c):Int)=(↑(IR c):Int)/\Hr .i64 ((d:Int)+1)=(e:Int)/\IN
def ZY (a:Pn) (b:IU Pl) (c:IU Pl):Prop:=([]:IU D)=[]/\((Fk (Hw (y5 (HU a) 4096)) λ(v:IU Pl)=>vt a b v&&yA a b c v)=true->sq a b c=pN a b c)/\((Fk (Hw (y5 (HU a) 4096)) λ(v:IU Pl)=>vt a b v&&yA a b c v)=false->sq a b c=sq a b c)
theorem JH (hM:M.Ok) (hF:M.Fn) (m:Int) (p:Pn) (old w:IU Pl) (hp:p.Fits) (ho:old.length<1099511627776) (hY:∀v:IU Pl,v.length<1099511627776->Gi Tryz.prog (GA M m) 6 [.d (xl v),.d (.int .i64 (zJ p v).2)] (MF p old w) (λrs H'=>(yA p old w v=true->rs=[.bool false]/\H'=Mi p old w)/\(yA p old w v=false->rs=[.bool true]/\H'=MF p old w))): HY Tryz.prog (GA M m) 52 [.yld 6,.iptr [.sl (p.sc.slots.map H9),.sl (p.sc.rooms.map H8),.sl (p.sc.people.map Hy),.sl (p.sc.groups.map Hx),.sl (p.sc.lessons.map H7),.sl (p.rules.map Hm),.sl (p.frozen.map intD)],.iptr [.sl (old.map H6)]] (MF p old w) (λrs H'=>rs=[]/\(((y5 p.sc 4096).1.any λv=>vt p old v&&yA p old w v)=true->H'=Mi p old w)/\(((y5 p.sc 4096).1.any λv=>vt p old v&&yA p old w v)=false->H'=MF p old w)):=by
 have h13:=Mj (G:=GA M m) (Zh M m) p.sc 4096 hp.sc (by decide);have h7:=λv hv=>h7 hM hF m p v hp hv;have h20:=λv hv=>h20 hM m p old v hp ho hv;rw[yj]at *;rw[zj,zO]at *;refine zZ (LL [(2,ze (α:=Nat) Tryz.prog (GA M m) L0 7 (z8 (z6 Tryz.f52) 0) [0,1,2,16,17] (λi=>i<=(y5 p.sc 4096).1.length/\(((y5 p.sc 4096).1.take i).any λv=>vt p old v&&yA p old w v)=false) (λi=>(y5 p.sc 4096).1.length - i) (λi=>[(18,.d (.int .i64 i))]) (λH _=>H))]) Tryz.func52 rfl (M3 _ _ _) (zt zz) ?_;apply @z7 _ (IK Tryz.prog (GA M m) 13 [Hd [.sl (wf p),.sl (we p),.sl (uw p),.sl (uv p),.sl (uu p)],.int .i64 4096] λ(rs:IU D)=>∃(l:IU D)(n:Int),rs=[II l,.int .i64 n]/\∃(x0:Nat),jw x0 p old w/\((G2 6=G2 6/\pM p/\GO [.sl (IT H6 old)]=GO [.sl (IT H6 old)]/\l=l/\(↑(IR l):Int)=(↑(IR l):Int)/\(0:Int)=(x0:Int)/\IN)/\Za p old w)/\∀(x:Nat),jw x p old w->(decide ((x:Int)<(↑(IR l):Int))=true->((0:Int)<=(x:Int)/\l[IJ (x:Int)]? = some (wM l x))/\IK Tryz.prog (GA M m) 7 [Hd (ut p),wM l x] λ(rs:IU D)=>∃(b:Bool)(n:Int),rs=[IL b,.int .i64 n]/\IK Tryz.prog (GA M m) 20 [Hd (ut p),.agg [.sl (IT H6 old)],wM l x] λ(rs:IU D)=>∃(b_1:Bool),rs = [IL b_1]/\((bif b then b_1 else false)=true->Gi Tryz.prog (GA M m) 6 (IH (wM l x)::mc n) (sq p old w) λ(rs:IU D) (H':IU Box)=>∃(b_2:Bool),rs=[IL b_2]/\∃(l_1:IU D)(l_2:IU D)(l_3:IU D)(l_4:IU D)(l_5:IU D)(l_6:IU D)(l_7:IU D)(l_8:IU D)(l_9:IU D)(b_3:Bool)(n:Int)(n_1:Int)(pend:IQ He)(st:HJ),H'=jv l_1 l_2 l_3 l_4 l_5 l_6 l_7::ju l_8 l_9 b_3 n n_1 pend st/\((bif bif b then b_1 else false then !b_2 else false)=true->([]:IU D)=[]/\((Fk (Hw (y5 (HU p) 4096)) λ(v:IU Pl)=>vt p old v&&yA p old w v)=true->jv l_1 l_2 l_3 l_4 l_5 l_6 l_7::ju l_8 l_9 b_3 n n_1 pend st=pN p old w)/\((Fk (Hw (y5 (HU p) 4096)) λ(v:IU Pl)=>vt p old v && yA p old w v)=false->jv l_1 l_2 l_3 l_4 l_5 l_6 l_7::ju l_8 l_9 b_3 n n_1 pend st=sq p old w))/\((bif bif b then b_1 else false then !b_2 else false)=false->∃(y:Nat),jw y p old w/\IR (Hw (y5 (HU p) 4096)) - y<IR (Hw (y5 (HU p) 4096)) - x/\ZZ p old l x y/\(l_1=wf p/\l_2=we p/\l_3=uw p/\l_4=uv p/\l_5=uu p/\l_6=IT Hm (F6 p)/\l_7=IT intD (GX p)/\IN)/\(l_8=IT H6 old/\IN)/\(l_9=IT H6 w/\IN)/\(b_3=false/\IN)/\(n=HL (zJ p w)/\IN)/\(n_1=xu p old w/\IN)/\Gz yBeq8 (zY c9a) (zk c9a) (zX c9a) pend st=h52Bq4/\IN))/\((bif b then b_1 else false)=true∨((bif bif b then b_1 else false then !true else false)=true->ZY p old w)/\((bif bif b then b_1 else false then !true else false)=false->∃(y:Nat),jw y p old w/\IR (Hw (y5 (HU p) 4096)) - y<IR (Hw (y5 (HU p) 4096)) - x/\ZZ p old l x y/\Za p old w)))/\(decide ((x:Int)<(↑(IR l):Int))=false->ZY p old w))
 ·kernel_rfl
 delta wf we uw uv uu sp pM so ut oT h52Nq12 h52Nq3 wM uo lH eM yBeq4 pN qY eL yBeq8 yBeq2 sq pL Zb jy jx jw Za h52Bq4 mc jv ju ZZ ZY;refine h13.use ⟨_,_,rfl,0,⟨by omega,rfl⟩,by and_intros<;>first|rfl|trivial,λx hx=>⟨λhlt=>?_,λhge=>?_⟩⟩
 ·simp only[H4,HS]at hlt;obtain⟨v,hz,hm⟩:=zw (l:=(y5 p.sc 4096).1) (x:=x) (by omega);have hsl:=hp.sc.lessons;have hv:v.length<1099511627776:=by rw[ll hm];exact hsl
  have hal:=lk (s:=p.sc) (m:=4096) (by decide);have e1:Hr .i64 ((x:Int)+1)=((x+1:Nat):Int):=by rw[zx (by omega) (by omega)];rfl
  have hnext:(vt p old v&&yA p old w v)=false->(((y5 p.sc 4096).1.take (x+1)).any λv=>vt p old v&&yA p old w v)=false:=λh=>by rw[yr hz,B2,hx.2,E5,BJ,h];rfl
  rw[HF,fV hz];refine⟨⟨by omega,fU hz⟩,(h7 v hv).use ⟨_,_,rfl,(h20 v hv).use ⟨_,rfl,?_⟩⟩⟩;have hok:vt p old v=(bif (zJ p v).1 then xO p old v else false):=by unfold vt;rw[zn]
  rw[←hok];cases hc:vt p old v with
  |false =>
   refine⟨λh=>Hu h (by decide),.inr ⟨λh=>Hu h (by decide),λ_=>⟨x+1,⟨by omega,hnext (by rw[hc];rfl)⟩,by omega,by and_intros<;>first|exact e1|rfl|trivial⟩⟩⟩
  |true =>
   refine⟨λ_=>(hY v hv).mono ?_,.inl rfl⟩;intro rs H' hq;cases hst:yA p old w v with
   |true =>
    obtain⟨rfl,rfl⟩:=hq.1 hst;have hany:((y5 p.sc 4096).1.any λv=>vt p old v&&yA p old w v)=true:=Dr.2 ⟨v,hm,by rw[hc,hst];rfl⟩;refine⟨false,rfl,_,_,_,_,_,_,_,_,_,_,_,_,_,_,rfl,λ_=>⟨rfl,λ_=>rfl,λhA=>?_⟩,λh=>Hu h (by decide)⟩;rw[hany]at hA;cases hA
   |false =>
    obtain⟨rfl,rfl⟩:=hq.2 hst;exact⟨true,rfl,_,_,_,_,_,_,_,_,_,_,_,_,_,_,rfl,λh=>Hu h (by decide),λ_=>⟨x+1,⟨by omega,hnext (by rw[hc,hst];rfl)⟩,by omega,by and_intros<;>first|exact e1|rfl|trivial⟩⟩
 ·simp only[H4,HH]at hge;have hx2:=hx.2;rw[Gs (by omega)]at hx2;rw[hx2];exact⟨rfl,λh=>Hu h (by decide),λ_=>rfl⟩
theorem h11 (hM:M.Ok) (hF:M.Fn) (m:Int) (p:Pn) (old:IU Pl) (hp:p.Fits) (ho:old.length<1099511627776):IK Tryz.prog (GA M m) 11 [p.d,xl old] (· = [.bool (tx p old)]):=by
 have h22:=h22 (G:=GA M m) p old;rw[yj,zO]at *;refine zu (LL [(1000001,uT Tryz.prog (GA M m) [2,3,4] (λds=>.clo 52 [] [.iptr (ds.getD 0 default).cells,.iptr (ds.getD 1 default).cells]) c11a)]) Tryz.func11 ⟨_,rfl⟩ (zt (xy (by kernel_rfl))) ?_;apply @z7 _ ((Fj Tryz.prog (GA M m) 22 [Hd (ut p),.agg [.sl (IT H6 old)]] λ(av:AV)=>av=eN p old)/\HY Tryz.prog (GA M m) 52 [G2 3,so p,.iptr [.sl (IT H6 old)]] (uo p old) λ(x:IU D) (H':IU Box)=>∃(l:IU D)(l_1:IU D)(l_2:IU D)(l_3:IU D)(l_4:IU D)(l_5:IU D)(l_6:IU D)(l_7:IU D)(b:Bool)(pend:IQ He)(st:HJ),H'=pL l l_1 l_2 l_3 l_4 l_5 l_6 l_7 b pend st/\st≠Do/\(pend=none/\yBeq2=[IL (tx p old)]∨pend=some FJ/\[IL b]=[IL (tx p old)]∨pend=some (DV (W9 c11a))/\yBeq2=[IL (tx p old)]))
 ·kernel_rfl
 delta ut wf we uw uv uu sp pM so oT h52Nq12 h52Nq3 wM uo lH eM yBeq4 pN qY eL yBeq8 yBeq2 sq pL Zb jy jx eN;refine⟨h22,(JI hM hF m p old hp ho (λv _=>(JJ p old v _).mono λrs H' h=>⟨λ_=>h,λh2=>by cases h2⟩)).mono ?_⟩;intro rs H' hh;obtain⟨rfl,hA,hB⟩:=hh;have hn:tx p old = !((y5 p.sc 4096).1.any λv=>vt p old v&&vL v):=by
  unfold tx;have:∀l:IU (IU Pl),(l.all λv=>!vt p old v) = !l.any λv=>vt p old v&&vL v:=λl=>by
   induction l with
   |nil=>rfl
   |cons a l ih=>rw[D8,E5,ih,AA];simp[vL]
  exact this _
 cases hb:((y5 p.sc 4096).1.any λv=>vt p old v&&vL v)with
 |true =>
  obtain rfl:=hA hb;exact⟨_,_,_,_,_,_,_,_,_,_,_,rfl,by decide,.inr (.inl ⟨rfl,by rw[hn,hb];rfl⟩)⟩
 |false =>
  obtain rfl:=hB hb;exact⟨_,_,_,_,_,_,_,_,_,_,_,rfl,by decide,.inl ⟨rfl,by rw[hn,hb];rfl⟩⟩
def Mh (a:Pn) (b:IU Pl):IU D:=[Hd (ut a),.agg [.sl (IT H6 b)]]
def OH (a:Pn) (b:IU Pl) (c:IU Pl):IU D:=[IL (vY a b c)]
theorem h9 (hM:M.Ok) (hF:M.Fn) (m:Int) (p:Pn) (old w:IU Pl) (hp:p.Fits) (ho:old.length<1099511627776) (hw:w.length<1099511627776):IK Tryz.prog (GA M m) 9 [p.d,xl old,xl w] (· = [.bool (vY p old w)]):=by
 have h22:=h22 (G:=GA M m) p old;have h7:=h7 hM hF m p w hp hw;have h20:=h20 hM m p old w hp ho hw;have h21:=h21 (G:=GA M m) (Zh M m) p old w hp ho hw;rw[yj]at *;rw[zO]at *;rw[zO]at *;refine zu (LL [(1000005,uT Tryz.prog (GA M m) [3,4,5,6,8,9] (λds=>.clo 52 [] [.iptr (ds.getD 0 default).cells,.iptr (ds.getD 1 default).cells]) c9a)]) Tryz.func9 ⟨_,rfl⟩ (zt (xy (by kernel_rfl))) ?_;apply @z7 _ (IK Tryz.prog (GA M m) 7 (Mh p w) λ(rs:IU D)=>∃(b:Bool)(n:Int),rs=[IL b,.int .i64 n]/\IK Tryz.prog (GA M m) 20 [Hd (ut p),.agg [.sl (IT H6 old)],.agg [.sl (IT H6 w)]] λ(rs:IU D)=>∃(b_1:Bool),rs=[IL b_1]/\((bif !b then true else !b_1)=true->yBeq4=OH p old w)/\((bif !b then true else !b_1)=false->IK Tryz.prog (GA M m) 21 [Hd (ut p),.agg [.sl (IT H6 old)],.agg [.sl (IT H6 w)]] λ(rs:IU D)=>∃(n_1:Int),rs=[IP .i64 n_1]/\(Fj Tryz.prog (GA M m) 22 (Mh p old) λ(av:AV)=>av=eN p old)/\HY Tryz.prog (GA M m) 52 [G2 6,so p,.iptr [.sl (IT H6 old)]] [lH p,qY old,qY w,.cells 4 [.d (.bool false)],.cells 3 (mc n),.cells 3 (mc n_1),h52Bq4] λ(x:IU D) (H':IU Box)=>∃(l:IU D)(l_1:IU D),∃ (l_2:IU D),∃(l_3:IU D)(l_4:IU D)(l_5:IU D)(l_6:IU D)(l_7:IU D)(l_8:IU D)(b:Bool)(n:Int)(n_2:Int)(pend:IQ He)(st:HJ),H'=jv l l_1 l_2 l_3 l_4 l_5 l_6::ju l_7 l_8 b n n_2 pend st/\st≠Do/\(pend=none/\yBeq2=OH p old w∨pend=some FJ/\[IL b]=OH p old w∨pend=some (DV (W9 c9a))/\yBeq2=OH p old w)))
 ·kernel_rfl
 delta Mh ut wf we uw uv uu sp pM so oT h52Nq12 h52Nq3 wM uo lH eM yBeq4 pN qY eL yBeq8 yBeq2 sq pL Zb jy jx OH eN mc jw Za h52Bq4 jv ju ZZ ZY;refine h7.use ⟨_,_,rfl,h20.use ⟨_,rfl,λh=>?_,λh=>h21.use ⟨_,rfl,h22,(JH hM hF m p old w hp ho (λv hv=>LF (Zh M m) p old w v hp ho hv)).mono ?_⟩⟩⟩
 ·have:vt p old w=false:=by unfold vt;cases hx:(zJ p w).1<;>cases hy:xO p old w<;>rw[hx,hy]at h<;>first|rfl|cases h
  unfold vY;rw[this];rfl
 intro rs H' hh;obtain⟨rfl,hA,hB⟩:=hh;have hok:vt p old w=true:=by unfold vt;cases hx:(zJ p w).1<;>cases hy:xO p old w<;>rw[hx,hy]at h<;>first|rfl|cases h
 have hn:vY p old w = !((y5 p.sc 4096).1.any λv=>vt p old v&&yA p old w v):=by
  unfold vY;rw[hok,Bool.true_and];have:∀l:IU (IU Pl),(l.all λv=>!(vt p old v&&yA p old w v)) = !l.any λv=>vt p old v&&yA p old w v:=λl=>by
   induction l with
   |nil=>rfl
   |cons a l ih=>rw[D8,E5,ih,AA]
  exact this _
 cases hb:((y5 p.sc 4096).1.any λv=>vt p old v&&yA p old w v)with
 |true =>
  obtain rfl:=hA hb;exact⟨_,_,_,_,_,_,_,_,_,_,_,_,_,_,rfl,by decide,.inr (.inl ⟨rfl,by rw[hn,hb];rfl⟩)⟩
 |false =>
  obtain rfl:=hB hb;exact⟨_,_,_,_,_,_,_,_,_,_,_,_,_,_,rfl,by decide,.inl ⟨rfl,by rw[hn,hb];rfl⟩⟩
end
end Go.Fo
namespace Go.Fo
open Go Go.Sx
def exS:Sc:=⟨[⟨[97],0,0⟩,⟨[98],0,1⟩],[⟨[114],0,0,[]⟩],[],[],[⟨[120],[],[]⟩]⟩
def exA:Fm:= .mk 3 [] 0 [⟨2,[108],0⟩,⟨2,[115],0⟩] [] []
def exZ:Fm:= .mk 9 [61] 0 [⟨4,[115],0⟩,⟨1,[],0⟩] [] []
def exR:Ru:=⟨[101,97,114,108,121],false,3,[⟨[108],1⟩,⟨[115],2⟩],.mk 13 [] 0 [] [] [exA,exZ]⟩
def exP:Pn:=⟨exS,[exR],[0]⟩
def w1:IU Pl:=[⟨0,0⟩]
def w2:IU Pl:=[⟨1,0⟩]
theorem ex_all:(y5 exS 4096)=([w1,w2],0):=by kernel_rfl
theorem ex_h1:zJ exP w1=(true,0):=by kernel_rfl
theorem ex_h2:zJ exP w2=(true,3):=by kernel_rfl
theorem ex_h0:zJ exP []=(false,0):=by kernel_rfl
theorem ex_b1:vY exP [] w1=true:=by kernel_rfl
theorem ex_b2:vY exP [] w2=false:=by kernel_rfl
theorem ex_b3:vY exP w2 w2=true:=by kernel_rfl
theorem ex_b4:vY exP w2 w1=false:=by kernel_rfl
theorem ex_n1:tx exP w2=false:=by kernel_rfl
theorem ex_n0:tx exP []=false:=by kernel_rfl
theorem ex_o1:xO exP [] w1=true:=by kernel_rfl
theorem ex_o2:xO exP [] w2=true:=by kernel_rfl
theorem ex_e1:zE exS w1 [exR]=0:=by kernel_rfl
end Go.Fo
namespace Go.Fo
open Go Go.Sx Go.Proofs
def c156:He:=unScope (z8 (z6 Tryz.f156) 0)
def tm156:IU AV:=[.any,.any,.ptr 0 0,.any,.any,.any,.any,.any,.any,.any,.any,.any,.any]
def N8 (s:Sc) (bs:IU Bd) (k:Nat):IU Box:=[.cells 55 [.vec 1 (((zg s bs).take k).map wz)],.vec k 1,.loop tm156 (zY c156) (zk c156) (zX c156) none .ready]
theorem RT (l:IU (IU Int)):((l.map wz).all λd=>d.cells.length==1)=true:=by rw[G3];intro d hd;obtain⟨x,_,rfl⟩:=Gd.1 hd;rfl
section
variable {G:Nat->IQ (IU D)}
def na (a:IU Int):IU D:=[II (IT intD a)]
def yT6q1:IU Box:=[Gz [IM,.any,.ptr 0 0,.any,.any,.any,.any,.any,.any,.any,.any,.any,.any] (zY c156) (zk c156) (zX c156) none GY]
theorem LD (s:Sc) (bs:IU Bd) (k:Nat) (t:IU Int) (ht:(zg s bs)[k]? = some t) (hk:k<1099511627776):Gi Tryz.prog G 2 [.d (wz t)] (N8 s bs k) (λrs H'=>rs=[.bool true]/\H'=N8 s bs (k+1)):=by
 unfold wz;refine DW (tm:=tm156) (ps:=zY c156) (asn:=zk c156) (bd:=zX c156) mixed L0 rfl (by kernel_rfl) rfl rfl ⟨_,_,rfl,rfl⟩ (λ_=>ns (by kernel_rfl)) (λ_=>ns (by kernel_rfl)) ?_;apply @z7 _ ((k=IR (IT wz (HZ k (zg s bs)))/\1=1/\FA (IT wz (HZ k (zg s bs))) (na t) (nat_lit 1) (nat_lit 24))/\[IL true]=[IL true]/\Hl 55 [.vec 1 (IT wz (HZ k (zg s bs))++G6 (na t))]::FY (IR (IT wz (HZ k (zg s bs)))+IR (G6 (na t))) 1::yT6q1=Hl 55 [.vec 1 (IT wz (HZ (k+1) (zg s bs)))]::FY (k+1) 1::yT6q1)
 ·kernel_rfl
 delta na yT6q1;have hc:=RT ((zg s bs).take k);have hlen:(zg s bs).length>=k+1:=by have:=(zxZ.1 ht).1;omega
 have htl:((zg s bs).take k).length=k:=by rw[FS];omega
 refine⟨⟨by rw[H4,htl],rfl,⟨by rw[Fb,hc];rfl,by rw[H4,htl];simp;omega⟩⟩,rfl,?_⟩;have e1:IT wz (HZ k (zg s bs))++[II (IT intD t)]=IT wz (HZ (k+1) (zg s bs)):=by rw[yr ht,GI];rfl
 have e2:(IT wz (HZ k (zg s bs))).length+1=k+1:=by rw[H4,htl]
 rw[←e1,←e2];rfl
def ZX (a:Nat) (b:Sc) (c:IU Bd) (d:IU Int):IU Box:=[Hl 55 [.vec 1 (IT wz (HZ a (zg b c)))],.vec a 1,.loop [IM,.any,.ptr 0 0,.any,.any,.any,.any,.any,.any,.any,.any,.any,.any] (zY c156) (zk c156) (zX c156) none GY,.arr 1 (IT intD d)]
def ZW (a:Nat) (b:Sc) (c:IU Bd) (d:IU Int):Prop:=ZX a b c d=ZX a b c d
theorem LC (s:Sc) (bs:IU Bd) (k:Nat) (t:IU Int) (ht:t.length<1099511627776):HY Tryz.prog G 35 [.msl 3] (N8 s bs k++[.arr 1 (t.map intD)]) (λrs H'=>rs=[wz t]/\H'=N8 s bs k++[.arr 1 (t.map intD)]):=by
 refine zB Tryz.func35 rfl ⟨_,_,rfl,rfl⟩ ?_;apply @z7 _ ((false=true->[II []]=na t/\ZW k s bs t)/\(false=false->FA [] (IT intD t) (nat_lit 1) (nat_lit 8)/\[II (G6 ([]:IU D)++IT intD t)]=na t/\ZW k s bs t))
 ·kernel_rfl
 delta na yT6q1 ZW ZX;refine⟨λh=>Hu h (by decide),λ_=>⟨⟨?_,by simp;omega⟩,rfl,rfl⟩⟩;simpa using u0 t
def rZ (a:Sc) (b:IU Bd):IU Box:=Hl 55 [.vec 1 (IT wz (HZ (IR (zg a b)) (zg a b)))]::FY (IR (zg a b)) 1::yT6q1
def vS (a:IU Bd):Int:=(↑(IR (IT ID a)):Int)
def ti (a:Sc) (b:IU Bd):Prop:=GO [.sl (IT intD (zM a b))]=GO [.sl (IT intD (zM a b))]
def rY (a:IU Bd):Prop:=GO [.sl (IT ID a)]=GO [.sl (IT ID a)]
def pK (a:Sc) (b:IU Bd):Prop:=G2 2=G2 2/\ti a b/\rY b/\F1 3=F1 3/\IN
def h135T6q16:IU AV:=[IM,.any,.ptr 0 0,.any,.any,.any,.any,.any,.any,.any,.any,.any,.any]
def h135T6q14:Box:=Gz h135T6q16 (zY c156) (zk c156) (zX c156) none GY
def h135T6q15:Prop:=h135T6q14=h135T6q14
def th (a:IQ He) (b:HJ):Box:=Gz h135T6q16 (zY c156) (zk c156) (zX c156) a b
def tF (a:IU D) (b:Nat) (c:IQ He) (d:HJ):IU Box:=[Hl 55 [.vec 1 a],.vec b 1,th c d]
def yp (a:Nat×Nat):Int:=(↑(Hw a):Int) - 1
def vu (a:Nat) (b:Sc) (c:IU Bd):IU D:=IT wz (HZ (a+1) (zg b c))
def xe (a:Sc) (b:IU Bd) (c:Nat×Nat):IU D:=IT intD (w9 a b (Hw c) (HL c))
def rX (a:Nat×Nat):Prop:=decide (yp a>=0)=true
def rW (a:Nat×Nat) (b:Sc) (c:IU Bd):Prop:=IJ (yp a)<IR (xe b c a)
def tE (a:Nat×Nat) (b:Sc) (c:IU Bd):Prop:=0<=yp a/\rW a b c
def rV (a:Sc) (b:IU Bd) (c:Nat×Nat):Prop:=z1 (xe a b c) (IJ (yp c)) 0=some (IP .i64 (Hf (IB (z1 (xe a b c) (IJ (yp c)) 0) default)))/\IN
def rU (a:Sc) (b:IU Bd) (c:Nat×Nat):Int:=Hf (IB (z1 (IT intD (zM a b)) (IJ (yp c)) 0) default)
def pJ (a:Nat×Nat) (b:Sc) (c:IU Bd):Bool:=bif decide (yp a>=0)then Hr .i64 (Hf (IB (z1 (xe b c a) (IJ (yp a)) 0) default)+1)==rU b c a else false
theorem Mg (s:Sc) (bs:IU Bd) (hb:bs.length<=1000000000) (hsz:∀b∈bs,cN s b<1099511627776) (hY:∀(k:Nat) (t:IU Int),(zg s bs)[k]? = some t->Gi Tryz.prog G 2 [.d (wz t)] (N8 s bs k) (λrs H'=>rs=[.bool true]/\H'=N8 s bs (k+1))): HY Tryz.prog G 135 [.yld 2,.iptr [wz (zM s bs)],.iptr [.sl (bs.map ID)]] (N8 s bs 0) (λ_ H'=>H'=N8 s bs (zg s bs).length):=by
 have hcl:=λk t h=>LC (G:=G) s bs k t h;unfold wz at *;refine zZ (LL [(2,xH (α:=Nat) Tryz.prog G (λk=>LL [(4,ze (α:=Nat×Nat) Tryz.prog G L0 3 (z8 (z8 (z6 Tryz.f135) 0) 0) [0,1,2,4] (λx=>F7 s bs k x.1 x.2) (λx=>x.1) (λx=>[(5,.d (.int .i64 ((x.1:Int) - 1)))]) (λ_ x=>N8 s bs (k+1)++[.arr 1 ((w9 s bs x.1 x.2).map intD)]))]) 3 (z8 (z6 Tryz.f135) 0) [0,1,2,4] (λk=>k<(zg s bs).length) (λk=>(zg s bs).length - k) (λ_=>[]) (λ_ k=>N8 s bs k++[.arr 1 ((xz s bs k).map intD)]))]) Tryz.func135 rfl ⟨[],_,rfl⟩ (zt (zA mixed (λ_=>zt zz))) ?_;apply @z7 _ (IK Tryz.prog G 76 [II (IT intD (zM s bs)),.int .i64 0] λ(rs:IU D)=>∃(b:Bool),rs=[IL b]/\(b=true->Hl 55 [.vec 1 []]::FY 0 1::yT6q1=rZ s bs)/\(b=false->(vS bs=vS bs/\0<=vS bs/\vS bs<=1000000000/\(↑8:Int)*vS bs<=281474976710656)/\∃(x0:Nat),x0<IR (zg s bs)/\(pK s bs/\([]=IT wz (HZ x0 (zg s bs))/\IN)/\0=x0/\h135T6q15/\G8 (IJ (vS bs)) (IP .i64 0)=IT intD (xz s bs x0)/\IN)/\∀(x:Nat),x<IR (zg s bs)->HY Tryz.prog G 35 [F1 3] [Hl 55 [.vec 1 (IT wz (HZ x (zg s bs)))],.vec x 1,h135T6q14,.arr 1 (IT intD (xz s bs x))] λ(rs:IU D) (H':IU Box)=>∃(l:IU D),rs=[II l]/\∃(l_1:IU D)(n:Nat)(pend:IQ He)(st:HJ)(ds:IU D),H'=[Hl 55 [.vec 1 l_1],.vec n 1,th pend st,.arr 1 ds]/\Gi Tryz.prog G 2 [IH (.sl l)] (tF l_1 n pend st) λ(rs:IU D) (H':IU Box)=>∃(b:Bool),rs=[IL b]/\∃(l:IU D)(n:Nat)(pend:IQ He)(st:HJ),H'=tF l n pend st/\((!b)=true->tF l n pend st=rZ s bs)/\((!b)=false->∃(x0:Nat×Nat),F7 s bs x (Hw x0) (HL x0)/\((G2 2=G2 2/\ti s bs/\rY bs/\F1 3=F1 3/\Hr .i64 ((↑(IR ds):Int) - 1)=yp x0/\IN)/\(l=vu x s bs/\IN)/\n=x+1/\th pend st=h135T6q14/\ds=xe s bs x0/\IN)/\∀(x_1:Nat×Nat),F7 s bs x (Hw x_1) (HL x_1)->(rX x_1->tE x_1 s bs)/\(rX x_1->rV s bs x_1)/\(rX x_1->0<=yp x_1/\(IT intD (zM s bs))[IJ (yp x_1)]? = some (IP .i64 (rU s bs x_1)))/\(pJ x_1 s bs=true->tE x_1 s bs/\rW x_1 s bs/\∃(y:Nat×Nat),F7 s bs x (Hw y) (HL y)/\Hw y<Hw x_1/\(G2 2=G2 2/\ti s bs/\rY bs/\F1 3=F1 3/\Hr .i64 (yp x_1 - 1)=yp y/\IN)/\(vu x s bs=vu x s bs/\IN)/\x+1=x+1/\h135T6q15/\wS (xe s bs x_1) (IJ (yp x_1)) 0 (G6 [IP .i64 0])=xe s bs y/\IN)/\(pJ x_1 s bs=false->(decide (yp x_1<0)=true->Hl 55 [.vec 1 (vu x s bs)]::FY (x+1) 1::yT6q1=rZ s bs)/\(decide (yp x_1<0)=false->tE x_1 s bs/\rV s bs x_1/\tE x_1 s bs/\rW x_1 s bs/\∃(y:Nat),y < IR (zg s bs)/\IR (zg s bs) - y<IR (zg s bs) - x/\pK s bs/\(vu x s bs=IT wz (HZ y (zg s bs))/\IN)/\x+1=y/\h135T6q15/\wS (xe s bs x_1) (IJ (yp x_1)) 0 (G6 [Hw (IP .i64 (Hr .i64 (Hf (IB (z1 (xe s bs x_1) (IJ (yp x_1)) 0) default)+1)),IN)])=IT intD (xz s bs y)/\IN)))))
 ·kernel_rfl
 delta yT6q1 na rZ vS pK ti rY h135T6q15 h135T6q14 h135T6q16 th tF yp vu xe rX tE rW rV rU pJ;refine(N6 (G:=G) (zM s bs) 0 (by rw[tl];omega)).use ⟨_,rfl,λhb0=>?_,λhb0=>?_⟩
 ·obtain⟨b,hm,hc⟩:=tj.1 hb0;rw[er hm hc];rfl
 have hpos:∀b∈bs,0<cN s b:=λb hm=>by
  rcases C4 (cN s b)with h|h
  ·rw[tj.2 ⟨b,hm,h⟩]at hb0;cases hb0
  ·exact h
 refine⟨⟨rfl,by omega,by simp;omega,by simp;omega⟩,0,iZ hpos,?_,λk hk=>?_⟩
 ·and_intros<;>first|rfl|trivial|(simp only[H4,HF];rw[ol hpos,Z2])
 obtain⟨hkl,hkg⟩:=lh hk;refine(hcl k _ (by rw[hkl];omega)).mono ?_;rintro rs H' ⟨rfl,rfl⟩;refine⟨_,rfl,_,_,_,_,_,rfl,(hY k _ hkg).mono ?_⟩;rintro rs H' ⟨rfl,rfl⟩;refine⟨true,rfl,_,_,_,_,rfl,λh=>Hu h (by decide),λ_=>⟨(bs.length,k+1),zzn hk,?_,λy hy=>?_⟩⟩
 ·have e1:Hr .i64 (((IT intD (xz s bs k)).length:Nat) - 1:Int)=((bs.length:Nat):Int) - 1:=by rw[H4,hkl];exact zx (by omega) (by omega)
  have e2:IT intD (xz s bs k)=IT intD (w9 s bs bs.length (k+1)):=by rw[om]
  and_intros<;>first|exact e1|exact e2|rfl|trivial
 obtain⟨x1,q⟩:=y;cases x1 with
 |zero =>
  have hl:=zzf hy;refine⟨λh=>by simp at h,λh=>by simp at h,λh=>by simp at h,λh=>by simp at h,λ_=>⟨λ_=>?_,λh=>by simp at h⟩⟩;rw[←hl]
 |succ x =>
  obtain⟨d,c,h1,h2,hg,hs,hx,hcar,hst⟩:=Z1 hpos hsz hy;have ex:((x+1:Nat):Int) - 1=(x:Int):=by omega
  have hol:=ia hy;have hll:(IT intD (w9 s bs (x+1) q)).length=bs.length:=by rw[H4,hol]
  have ei (n:Int):Hf (IB (some (IP .i64 n)) default)=n:=rfl;have hw:Hr .i64 ((d:Int)+1)=((d+1:Nat):Int):=by rw[zx (by omega) (by omega)];rfl
  have hdm:decide ((x:Int)>=0)=true:=by simp
  rw[ex,HF,yK hg,yK hs,ei,ei,hw,hll,hdm];refine⟨λ_=>⟨by omega,hx⟩,λ_=>⟨rfl,trivial⟩,λ_=>⟨by omega,xG hs⟩,λhq=>?_,λhq=>⟨λh=>Hu (G0 h) (by omega),λ_=>?_⟩⟩
  ·have e:d+1=c:=by have:(((d+1:Nat):Int)==(c:Int))=true:=hq;have:=eq_of_beq this;omega
   obtain⟨o1,o2⟩:=hcar e;refine⟨⟨by omega,hx⟩,hx,(x,q / c),o1,by omega,?_⟩;have e1:Hr .i64 ((x:Int) - 1)=(x:Int) - 1:=zx (by omega) (by omega);have e2:=(rn (w9 s bs (x+1) q) x 0).trans (Gv _ o2);and_intros<;>first|exact e1|exact e2|rfl|trivial
  ·have e:d+1≠c:=λe=>by have:(((d+1:Nat):Int)==(c:Int))=false:=hq;rw[e]at this;simp at this
   obtain⟨o1,o2⟩:=hst e;refine⟨⟨by omega,hx⟩,⟨rfl,trivial⟩,⟨by omega,hx⟩,hx,k+1,o1,by omega,?_⟩;have e2:=(rn (w9 s bs (x+1) q) x ((d+1:Nat):Int)).trans (Gv _ o2);and_intros<;>first|exact e2|rfl|trivial
def ZV (a:Sc) (b:IU Bd):IU AV:=[GO [.sl (IT intD (zM a b))],.iptr [.sl (IT ID b)]]
def eK (a:Sc) (b:IU Bd):AV:=Gg 135 [] (ZV a b)
def eJ (a:IU D) (b:Sc) (c:IU Bd):Prop:=[II a]=[II (IT (λ(t:IU Int)=>II (IT intD t)) (zg b c))]/\([]:IU Box)=[]
theorem h156 (s:Sc) (bs:IU Bd) (hb:bs.length<=1000000000) (hsz:∀b∈bs,cN s b<1099511627776) (hl:(zg s bs).length<1099511627776):HY Tryz.prog G 156 [.nils,.clo 135 [] [.iptr [wz (zM s bs)],.iptr [.sl (bs.map ID)]]] [] (λrs H'=>rs=[.sl ((zg s bs).map wz)]/\H'=[]):=by
 have h135:=Mg (G:=G) s bs hb hsz (λk t ht=>LD s bs k t ht (by have:=(zxZ.1 ht).1;omega));unfold wz at *;refine zZ (LL [(1000001,WW Tryz.prog G 0 [2] (λ_=>[.cells 55 [.vec 1 []],.vec 0 1]) c156)]) Tryz.func156 rfl ⟨_,_,rfl,rfl⟩ (zt (bX mixed (by kernel_rfl))) ?_;apply @z7 _ (((IA 0 0=IA 0 0/\eK s bs=eK s bs/\IN)/\((([]:IU D)=[]/\IR ([]:IU D)<=0)/\IN)/\IN)/\HY Tryz.prog G 135 (G2 2::ZV s bs) (Hl 55 [.vec 1 []]::FY 0 1::yT6q1) λ(x:IU D) (H':IU Box)=>∃(l:IU D)(n:Nat)(pend:IQ He)(st:HJ),H'=tF l n pend st/\st≠Do/\(pend=none/\eJ l s bs∨pend=some FJ/\HD∨pend=some (DV (W9 c156))/\eJ l s bs))
 ·kernel_rfl
 delta eK ZV yT6q1 na tF rZ vS pK ti rY h135T6q15 h135T6q14 h135T6q16 th yp vu xe rX tE rW rV rU pJ eJ;refine⟨by and_intros<;>first|rfl|trivial|simp,h135.mono ?_⟩;rintro rs H' rfl;refine⟨_,_,_,_,rfl,by simp,.inl ⟨rfl,?_,rfl⟩⟩;rw[IU.take_length];rfl
theorem h117 (s:Sc) (bs:IU Bd) (hb:bs.length<=1000000000) (hsz:∀b∈bs,cN s b<1099511627776) (hl:(zg s bs).length<1099511627776):HY Tryz.prog G 117 [.clo 135 [] [.iptr [wz (zM s bs)],.iptr [.sl (bs.map ID)]]] [] (λrs H'=>rs=[.sl ((zg s bs).map wz)]/\H'=[]):=by
 have h156:=h156 (G:=G) s bs hb hsz hl;unfold wz at *;refine zB Tryz.func117 rfl ⟨_,_,rfl,rfl⟩ ?_;apply @z7 _ (HY Tryz.prog G 156 [AV.nils,eK s bs] [] λ(rs:IU D) (H':IU Box)=>∃(l:IU D),rs=[II l]/\H'=[]/\eJ l s bs)
 ·kernel_rfl
 delta eK ZV yT6q1 na tF rZ vS pK ti rY h135T6q15 h135T6q14 h135T6q16 th yp vu xe rX tE rW rV rU pJ eJ;refine h156.mono ?_;rintro rs H' ⟨rfl,rfl⟩;exact⟨_,rfl,rfl,rfl,rfl⟩
def ql (s:Sc) (r:Ru):IU (IU Int)×Int :=if yI s != 0 then([],yI s)else if r.tyI != 0 then([],r.tyI)else if zR 1048577 s r.each>4096 then([],2)else(zg s r.each,0)
end
section
variable {M:Gf}
def SX (a:Sc):D:=Hd [.sl (IT H9 (Hk a)),.sl (IT H8 (Hg a)),.sl (IT Hy (Hi a)),.sl (IT Hx (Hh a)),.sl (IT H7 (Hn a))]
def SW (a:IU D) (b:Int):Prop:=a=[IP .i64 b]
def SV (a:Sc) (b:Ru):IU D:=[II (IT wz (Hw (ql a b))),.int .i64 (HL (ql a b))]
def OG (a:Int) (b:Sc) (c:Ru):Prop:=[II [],.int .i64 a]=SV b c
def OF (a:Sc) (b:Ru):AV:=Gg 135 [] [GO [.sl (IT intD (zM a (GT b)))],.iptr [.sl (IT ID (GT b))]]
theorem h69 (hM:M.Ok) (m:Int) (s:Sc) (r:Ru) (hs:s.Fits) (hr:r.wt<1099511627776) (hb:r.each.length<=1000000000) (hsz:∀b∈r.each,cN s b<1099511627776) (hl:(zg s r.each).length<1099511627776):IK Tryz.prog (GA M m) 69 [s.d,r.d] (· = [.sl ((ql s r).1.map wz),.int .i64 (ql s r).2]):=by
 have h26:=h26 (Zh M m) s hs;have g20:=(g20 hM r hr).more (cG M m);have h116:=h116 (G:=GA M m) s r.each hs (by omega);have h86:=h86 (G:=GA M m) s r.each hs (by omega);have h117:=h117 (G:=GA M m) s r.each hb hsz hl;unfold Hm at *;rw[zj]at *;refine IK.walkM (fn:=Tryz.f69) (code:=z6 Tryz.f69) mixed L0 (λk _=>if Nat.beq k 86 then some (.clo 135 [] [.iptr [wz (zM s r.each)],.iptr [.sl (r.each.map ID)]])else none) [9] Tryz.func69 (by kernel_rfl) ⟨_,rfl⟩ tw ?_;apply @z7 _ (IK Tryz.prog (GA M m) 26 [SX s] λ(rs:IU D)=>∃(n:Int),SW rs n/\((n != 0)=true->OG n s r)/\((n != 0)=false->IK Tryz.prog (GA M m) 115 [Hd [.str (FX r),.bool (FW r),.int .i64 (FZ r),.sl (IT ID (GT r)),.int .i64 (Hj (G7 r)),.str (HE (G7 r)),.int .i64 (HB (G7 r)),.sl (IT Hq (HM (G7 r))),.sl (IT ID (HN (G7 r))),.sl (IT HV (Hz (G7 r)))]] λ(rs:IU D)=>∃(n:Int),SW rs n/\((n != 0)=true->OG n s r)/\((n != 0)=false->IK Tryz.prog (GA M m) 116 [SX s,.sl (IT ID (GT r))] λ(rs:IU D)=>∃(n:Int),SW rs n/\(decide (n>4096)=true->[II [],.int .i64 2]=SV s r)/\(decide (n>4096)=false->(Fj Tryz.prog (GA M m) 86 [SX s,.sl (IT ID (GT r))] λ(x:AV)=>x=OF s r)/\HY Tryz.prog (GA M m) 117 [OF s r] [] λ(rs:IU D) (H':IU Box)=>∃(l:IU D),rs=[II l]/\H'=[]/\[II l,.int .i64 0]=SV s r))))
 ·kernel_rfl
 delta SX SW OG SV OF;refine h26.use ⟨_,rfl,λh=>?_,λh=>g20.use ⟨_,rfl,λh2=>?_,λh2=>h116.use ⟨_,rfl,λh3=>?_,λh3=>⟨h86,h117.mono ?_⟩⟩⟩⟩
 ·rw[ql,Hv h];rfl
 ·rw[ql,IE (by rw[h];decide),Hv h2];rfl
 ·rw[ql,IE (by rw[h];decide),IE (by rw[h2];decide),Hv (G0 h3)];rfl
 ·rintro rs H' ⟨rfl,rfl⟩;refine⟨_,rfl,rfl,?_⟩;rw[ql,IE (by rw[h];decide),IE (by rw[h2];decide),IE (of_decide_eq_false h3)]
end
def qX (s:Sc) (z:Ev):Bool:=decide (z.at_<0)||decide (z.at_>=zU s z.sort)
def ZA (e:Ev):Bd:=⟨e.name,e.sort⟩
def Mf (s:Sc) (env:IU Ev):Bool:=(gA (env.map ZA) ⟨1,[],0⟩).2==0&& !(env.any λz=>qX s z)
def wU (s:Sc) (w:IU Pl) (env:IU Ev) (f:Fm):Bool×Int :=if y4 s w != 0 then(false,y4 s w)else if !(Mf s env)then(false,1)else if f.tyI (env.map ZA) != 0 then(false,f.tyI (env.map ZA))else if f.broadP s>1048576 then(false,2)else(f.sem s w env,0)
section
variable {G:Nat->IQ (IU D)}
def wD (a:Sc):IU Box:=[Hl 28 [.d (.sl (IT H9 (Hk a))),.d (.sl (IT H8 (Hg a))),.d (.sl (IT Hy (Hi a))),.d (.sl (IT Hx (Hh a))),.d (.sl (IT H7 (Hn a)))]]
theorem JG (s:Sc) (hs:s.Fits) (z:Ev):HY Tryz.prog G 157 [.d z.d,.ptr 0 0] (RM s) (λrs H'=>rs=[.bool (qX s z)]/\H'=RM s):=by
 have h158:=h158 (G:=G) s z.sort hs;unfold HO;rw[zj]at *;refine zB Tryz.func157 rfl ⟨_,_,rfl,rfl⟩ ?_;apply @z7 _ (IK Tryz.prog G 158 [Hd [.sl (IT H9 (Hk s)),.sl (IT H8 (Hg s)),.sl (IT Hy (Hi s)),.sl (IT Hx (Hh s)),.sl (IT H7 (Hn s))],.int .i64 (Ev.sort z)] λ(rs:IU D)=>∃(n:Int),rs=[IP .i64 n]/\[IL (bif decide (Ev.at_ z<0)then true else decide (Ev.at_ z>=n))]=[IL (qX s z)]/\wD s=wD s)
 ·kernel_rfl
 delta wD;refine h158.use ⟨_,rfl,?_,rfl⟩;simp only[zH];rfl
def oS (a:Nat) (b:IU Ev) (c:Sc):Prop:=a<=IR b/\yg (λ(z:Ev)=>qX c z) (GM a b) a=yg (λ(z:Ev)=>qX c z) b 0
def oR (a:IU Ev) (b:Nat):D:=zr [HI,HX .i64,HX .i64] (IT HO a) (IJ (b:Int))
def qk (a:IU D) (b:IU D) (c:IU D) (d:IU D) (e:IU D):IU Box:=[Hl 28 [.d (.sl a),.d (.sl b),.d (.sl c),.d (.sl d),.d (.sl e)]]
theorem LB (s:Sc) (hs:s.Fits) (l:IU Ev) (hl:l.length<4611686018427387904):HY Tryz.prog G 168 [.d (.sl (l.map HO)),.clo 157 [] [.ptr 0 0]] (RM s) (λrs H'=>rs=[.int .i64 (yg (λz=>qX s z) l 0)]/\H'=RM s):=by
 refine zZ (LL [(2,ze (α:=Nat) Tryz.prog G L0 1 (z8 (z6 Tryz.f168) 0) [0,1,7] (λi=>i<=l.length/\yg (λz=>qX s z) (l.drop i) i=yg (λz=>qX s z) l 0) (λi=>l.length - i) (λi=>[(8,.d (.int .i64 i))]) (λH _=>H))]) Tryz.func168 rfl ⟨_,_,rfl,rfl⟩ (zt zz) ?_;apply @z7 _ (∃(x0:Nat),oS x0 l s/\((IT HO l=IT HO l/\Gg 157 [] [IA 0 0]=Gg 157 [] [IA 0 0]/\(↑(IR (IT HO l)):Int)=(↑(IR (IT HO l)):Int)/\(0:Int)=(x0:Int)/\IN)/\(IT H9 (Hk s)=IT H9 (Hk s)/\IT H8 (Hg s)=IT H8 (Hg s)/\IT Hy (Hi s)=IT Hy (Hi s)/\IT Hx (Hh s)=IT Hx (Hh s)/\IT H7 (Hn s)=IT H7 (Hn s)/\IN)/\IN)/\∀(x:Nat),oS x l s->(decide ((x:Int)<(↑(IR (IT HO l)):Int))=true->((0:Int)<=(x:Int)/\(IT HO l)[IJ (x:Int)]? = some (oR l x))/\HY Tryz.prog G 157 [IH (oR l x),.ptr 0 0] (wD s) λ(rs:IU D) (H':IU Box)=>∃(b:Bool),rs=[IL b]/\∃(l_1: IU D)(l_2:IU D)(l_3:IU D)(l_4:IU D)(l_5:IU D),H'=qk l_1 l_2 l_3 l_4 l_5/\(b=true->[IP .i64 (x:Int)]=[IP .i64 (yg (λ(z:Ev)=>qX s z) l 0)]/\qk l_1 l_2 l_3 l_4 l_5=wD s)/\(b=false->∃(y:Nat),oS y l s/\IR l - y<IR l - x/\(IT HO l=IT HO l/\Gg 157 [] [IA 0 0]=Gg 157 [] [IA 0 0]/\(↑(IR (IT HO l)):Int)=(↑(IR (IT HO l)):Int)/\Hr .i64 ((x:Int)+1)=(y:Int)/\IN)/\(l_1=IT H9 (Hk s)/\l_2=IT H8 (Hg s)/\l_3=IT Hy (Hi s)/\l_4=IT Hx (Hh s)/\l_5=IT H7 (Hn s)/\IN)/\IN))/\(decide ((x:Int)<(↑(IR (IT HO l)):Int))=false->[IP .i64 (-1)]=[IP .i64 (yg (λ(z:Ev) =>qX s z) l 0)]/\wD s=wD s))
 ·kernel_rfl
 delta oS oR wD qk;refine⟨0,⟨GD _,rfl⟩,by and_intros<;>first|rfl|trivial,λx hx=>⟨λhlt=>?_,λhge=>?_⟩⟩
 ·simp only[H4,HS]at hlt;obtain⟨z,hz,hm⟩:=zw (l:=l) (x:=x) (by omega);have hx2:=hx.2;rw[ye hz,yg]at hx2;rw[HF,nL hz];refine⟨⟨by omega,nK hz⟩,(JG s hs z).mono ?_⟩;rintro rs H' ⟨rfl,rfl⟩;have e1:Hr .i64 ((x:Int)+1)=((x+1:Nat):Int):=by rw[zx (by omega) (by omega)];rfl
  refine⟨_,rfl,_,_,_,_,_,rfl,λhb=>⟨?_,rfl⟩,λhb=>⟨x+1,⟨by omega,?_⟩,by omega,by and_intros<;>first|rfl|trivial|exact e1⟩⟩
  ·rw[Hv hb]at hx2;rw[hx2]
  ·rw[IE (by rw[hb];decide)]at hx2;exact hx2
 ·simp only[H4,HH]at hge;have hx2:=hx.2;rw[Fx (by omega),yg]at hx2;exact⟨by rw[hx2],rfl⟩
theorem LA (s:Sc) (hs:s.Fits) (l:IU Ev) (hl:l.length<4611686018427387904):HY Tryz.prog G 160 [.d (.sl (l.map HO)),.clo 157 [] [.ptr 0 0]] (RM s) (λrs H'=>rs=[.bool (l.any λz=>qX s z)]/\H'=RM s):=by
 refine zB Tryz.func160 rfl ⟨_,_,rfl,rfl⟩ ?_;apply @z7 _ (HY Tryz.prog G 168 [IH (.sl (IT HO l)),.clo 157 [] [IA 0 0]] (wD s) λ(rs:IU D) (H':IU Box)=>∃(n:Int),rs=[IP .i64 n]/\∃(l_1:IU D)(l_2:IU D)(l_3:IU D)(l_4:IU D)(l_5:IU D),H'=qk l_1 l_2 l_3 l_4 l_5/\[IL (decide (n>=0))]=[IL (Fk l λ(z:Ev)=>qX s z)]/\qk l_1 l_2 l_3 l_4 l_5=wD s)
 ·kernel_rfl
 delta wD qk oS oR;refine(LB (G:=G) s hs l hl).mono ?_;rintro rs H' ⟨rfl,rfl⟩;refine⟨_,rfl,_,_,_,_,_,rfl,?_,rfl⟩;rw[tK]
def pI (a:Nat) (b:IU Ev):IU D:=IT ID (IT ZA (HZ a b))
def Uc (a:IU Ev) (b:Nat):IU D:=G6 [Hd (G6 [(λ(x:Sh×Nat)=>match x with|(sh,j)=>GP sh (IB (z1 (IT HO a) (IJ (b:Int)) j) default)) (HX .i64,0+1),(λ(x:Sh×Nat)=>match x with|(sh,j)=>GP sh (IB (z1 (IT HO a) (IJ (b:Int)) j) default)) (HI,0)])]
theorem h120 (env:IU Ev) (hl:env.length<1099511627776):IK Tryz.prog G 120 [.sl (env.map HO)] (· = [.sl ((env.map ZA).map ID)]):=by
 refine zu (LL [(3,ze (α:=Nat) Tryz.prog G L0 0 (z8 (z6 Tryz.f120) 0) [6,7] (λx=>x<=env.length) (λx=>env.length - x) (λx=>[(3,.vec 0 (((env.take x).map ZA).map ID)),(8,.d (.int .i64 x))]) (λ_ x=>[.vec x 2]))]) Tryz.func120 ⟨_,rfl⟩ (zt zz) ?_;apply @z7 _ (∃(x0:Nat),x0<=IR env/\((([]=pI x0 env/\IR ([]:IU D)<=x0)/\IT HO env=IT HO env/\(↑(IR (IT HO env)):Int)=(↑(IR (IT HO env)):Int)/\(0:Int)=(x0:Int)/\IN)/\IN)/\∀(x:Nat),x<=IR env->(decide ((x:Int)<(↑(IR (IT HO env)):Int))=true->((0:Int)<=(x:Int)/\(IT HO env)[IJ (x:Int)]? = some (oR env x))/\(x=IR (pI x env)/\2=2/\FA (pI x env) [zr [HI,HX .i64] (IT HO env) (IJ (x:Int))] (nat_lit 2) (nat_lit 24))/\∃(y:Nat),y<=IR env/\IR env - y<IR env - x/\(pI x env++Uc env x=pI y env/\IT HO env=IT HO env/\(↑(IR (IT HO env)):Int)=(↑(IR (IT HO env)):Int)/\Hr .i64 ((x:Int)+1)=(y:Int)/\IN)/\IR (pI x env)+IR (Uc env x)=y/\IN)/\(decide ((x:Int)<(↑(IR (IT HO env)):Int))=false->[II (pI x env)]=[II (IT ID (IT ZA env))]))
 ·kernel_rfl
 delta pI oR oS wD qk Uc;refine⟨0,by omega,by and_intros<;>first|rfl|trivial|simp,λx hx=>⟨λhlt=>?_,λhge=>?_⟩⟩
 ·simp only[H4,HS]at hlt;obtain⟨z,hz,hm⟩:=zw (l:=env) (x:=x) (by omega);have ei (n:Int):Hf (IB (some (IP .i64 n)) default)=n:=rfl;have es (n:Nm):Gc (IB (some (HW n)) default)=n:=rfl;have hg:0<=(x:Int)/\(IT HO env)[x]? = some z.d:=⟨by omega,nK hz⟩;have hb2:zr [.str,.int .i64] (env.map HO) x=(ZA z).d:=by show Hd [_,_]=_;rw[lz hz,ly hz];rfl
  have hll:((env.take x).map ZA).length=x:=by rw[H4,FS];omega
  have hc:=QK ((env.take x).map ZA++[ZA z]);rw[HF,nL hz,hb2];dsimp only;rw[lz hz,ly hz];have e1:(IT ID (IT ZA (HZ x env))++[(ZA z).d])=IT ID (IT ZA (HZ (x+1) env)):=by rw[yr hz,GI,GI];rfl
  refine⟨hg,⟨by rw[H4,hll],rfl,⟨?_,by rw[H4,hll];simp;omega⟩⟩,x+1,by omega,by omega,⟨e1,rfl,rfl,by rw[zx (by omega) (by omega)];rfl,trivial⟩,?_,trivial⟩
  ·simpa using hc
  ·rw[H4,hll];rfl
 ·simp only[H4,HH]at hge;rw[Gs (by omega)]
end
section
variable {M:Gf}
theorem h118 (hM:M.Ok) (m:Int) (s:Sc) (env:IU Ev) (hs:s.Fits) (hl:nq (env.map ZA)<=1099511627776) (hl2:env.length<1099511627776):IK Tryz.prog (GA M m) 118 [s.d,.sl (env.map HO)] (· = [.bool (Mf s env)]):=by
 have h120:=h120 (G:=GA M m) env hl2;have g13:=(g13 hM (env.map ZA) ⟨1,[],0⟩ hl (by simp)).more (cG M m);have h160:=LA (G:=GA M m) s hs env (by omega);unfold Hq at *;rw[zj]at *;refine zq Tryz.func118 ⟨_,rfl⟩ ?_;apply @z7 _ (IK Tryz.prog (GA M m) 120 [II (IT HO env)] λ(rs:IU D)=>∃(l:IU D),rs=[II l]/\IK Tryz.prog (GA M m) 159 [II l,.agg [.int .i64 1,.str (Gx (Gy (Gu #[]))),.int .i64 0]] λ(rs:IU D)=>∃(n:Int)(n_1:Int),rs=[IP .i64 n,.int .i64 n_1]/\HY Tryz.prog (GA M m) 160 [IH (.sl (IT HO env)),.clo 157 [] [IA 0 0]] (wD s) λ(rs:IU D) (H':IU Box)=>H'=wD s/\∃(b:Bool),rs=[IL b]/\[IL (bif n_1==0 then !b else false)]=[IL (Mf s env)])
 ·kernel_rfl
 delta wD;refine h120.use ⟨_,rfl,g13.use ⟨_,_,rfl,h160.mono ?_⟩⟩;rintro rs H' ⟨rfl,rfl⟩;refine⟨rfl,_,rfl,?_⟩;simp only[zn];rfl
def h70q5 (a:Sc):D:=Hd [.sl (IT H9 (Hk a)),.sl (IT H8 (Hg a)),.sl (IT Hy (Hi a)),.sl (IT Hx (Hh a)),.sl (IT H7 (Hn a))]
def SU (a:IU D) (b:Int):Prop:=a=[IP .i64 b]
def XB (a:Sc) (b:IU Pl) (c:IU Ev) (d:Fm):IU D:=[IL (Hw (wU a b c d)),.int .i64 (HL (wU a b c d))]
def OE (a:Int) (b:Sc) (c:IU Pl) (d:IU Ev) (e:Fm):Prop:=[IL false,.int .i64 a]=XB b c d e
def SS (a:Fm):IU D:=[Hd [.int .i64 (Hj a),.str (HE a),.int .i64 (HB a),.sl (IT Hq (HM a)),.sl (IT ID (HN a)),.sl (IT HV (Hz a))]]
theorem h70 (hM:M.Ok) (hF:M.Fn) (m:Int) (s:Sc) (w:IU Pl) (env:IU Ev) (f:Fm) (hs:s.Fits) (hw:w.length<1099511627776) (hl:nq (env.map ZA)+f.wt<1099511627776) (hl2:env.length<1099511627776) (hp:(wU s w env f).2=0->Pre s w env f):IK Tryz.prog (GA M m) 70 [s.d,xl w,.sl (env.map HO),f.d] (· = [.bool (wU s w env f).1,.int .i64 (wU s w env f).2]):=by
 have h83:=h83 (Zh M m) s w hs hw;have h118:=h118 hM m s env hs (by omega) hl2;have h120:=h120 (G:=GA M m) env hl2;have g16:=(g16 hM (env.map ZA) f hl).more (cG M m);have h121:=h121 (G:=GA M m) s f hs (by omega);have h87:=λh=>(h87 hF s w f hs env (hp h)).more (cG M m);unfold io at *;rw[zO,yf f]at *;rw[zj]at *;refine zq Tryz.func70 ⟨_,rfl⟩ ?_;apply @z7 _ (IK Tryz.prog (GA M m) 83 [h70q5 s,.agg [.sl (IT H6 w)]] λ(rs:IU D)=>∃(n:Int),SU rs n/\((n != 0)=true->OE n s w env f)/\((n != 0)=false->IK Tryz.prog (GA M m) 118 [h70q5 s,.sl (IT HO env)] λ(rs:IU D)=>∃(b:Bool),rs=[IL b]/\((!b)=true->[IL false,.int .i64 1]=XB s w env f)/\((!b)=false->IK Tryz.prog (GA M m) 120 [II (IT HO env)] λ(rs:IU D)=>∃(l:IU D),rs=[II l]/\IK Tryz.prog (GA M m) 119 (II l::SS f) λ(rs:IU D)=>∃(n:Int),SU rs n/\((n != 0)=true->OE n s w env f)/\((n != 0)=false->IK Tryz.prog (GA M m) 121 (h70q5 s::SS f) λ(rs:IU D)=>∃(n:Int),SU rs n/\(decide (n>1048576)=true->[IL false,.int .i64 2]=XB s w env f)/\(decide (n>1048576)=false->IK Tryz.prog (GA M m) 87 (Hd [.sl (IT H9 (Hk s)),.sl (IT H8 (Hg s)),.sl (IT Hy (Hi s)),.sl (IT Hx (Hh s)),.sl (IT H7 (Hn s)),.sl (IT H6 w)]::II (IT HO env)::SS f) λ(rs:IU D)=>∃(b:Bool),rs=[IL b]/\[IL b,.int .i64 0]=XB s w env f)))))
 ·kernel_rfl
 delta h70q5 SU OE XB SS;refine h83.use ⟨_,rfl,λh=>?_,λh=>h118.use ⟨_,rfl,λh2=>?_,λh2=>h120.use ⟨_,rfl,g16.use ⟨_,rfl,λh3=>?_,λh3=>h121.use ⟨_,rfl,λh4=>?_,λh4=>?_⟩⟩⟩⟩⟩
 ·rw[wU,Hv h]
 ·rw[wU,IE (by rw[h];decide),Hv h2]
 ·rw[wU,IE (by rw[h];decide),IE (by rw[h2];decide),Hv h3]
 ·rw[wU,IE (by rw[h];decide),IE (by rw[h2];decide),IE (by rw[h3];decide),Hv (G0 h4)]
 ·have e:wU s w env f=(f.sem s w env,0):=by rw[wU,IE (by rw[h];decide),IE (by rw[h2];decide),IE (by rw[h3];decide),IE (of_decide_eq_false h4)]
  exact(h87 (by rw[e])).use ⟨_,rfl,by rw[e]⟩
end
section
variable {G:Nat->IQ (IU D)}
def bR (v:Bool×Bool):IU Bool:=[v.1,v.2]
def Ub (v:Bool×Bool) (k:Nat):IU D:=((bR v).take k++G8 (2 - k) false).map .bool
def Kk (b1 b2:Bd) (t:Int×Int):IU Ev:=[⟨b1.name,b1.sort,t.1⟩,⟨b2.name,b2.sort,t.2⟩]
def dz {α:Type}(a b:α):Nat->α
 |0=>a
 |_=>b
def tL (t:Int×Int):IU Int:=[t.1,t.2]
def JF (s:Sc):IU AV:=[.d (.sl (s.slots.map H9)),.d (.sl (s.rooms.map H8)),.d (.sl (s.people.map Hy)),.d (.sl (s.groups.map Hx)),.d (.sl (s.lessons.map H7))]
def If (s:Sc) (r:Ru) (fz:IU Int):Box:= .cells 32 (JF s++[.d (.sl [r.d]),.d (.sl (fz.map intD))])
def Ie (r:Ru):Box:= .cells 89 [.d (.str r.name),.d (.bool r.hard),.d (.int .i64 r.weight),.d (.sl (r.each.map ID)),.d (.int .i64 r.body.kind),.d (.str r.body.name),.d (.int .i64 r.body.n),.d (.sl (r.body.ts.map Hq)),.d (.sl (r.body.bs.map ID)),.d (.sl (r.body.l.map HV))]
def JE (r:Ru) (v1 v2:Bool×Bool) (j:Nat):IU Box:=[.cells 95 [.vec 3 ((G8 j r.hard).map .bool),.vec 4 (([II ((bR v1).map .bool),II ((bR v2).map .bool)]).take j),.d (.int .i64 2)],Ie r,.vec j 1,.vec j 1]
theorem zp.one' {P:HP}{rd:IQ Nat}{n:Nat}{code b1:He}{i1:Nat}{W1:LW}{r:IU (Nat×LW)}(h:loopsOf code=[b1]) (e1:LL ((i1,W1)::r) (loopId b1)=some W1) (h1:yD P G rd n b1 W1):zp P G rd n (LL ((i1,W1)::r)) (loopsOf code) := .of h (.cons e1 h1 .nil)
def w7 (a:Sc) (b:Ru) (c:IU Int):Sc:=HU (Cl a [b] c)
def iJ (a:Sc) (b:Ru) (c:IU Int):IU D:=IT H9 (Hk (w7 a b c))
def iI (a:Sc) (b:Ru) (c:IU Int):D:=Hd [.sl (iJ a b c),.sl (IT H8 (Hg (w7 a b c))),.sl (IT Hy (Hi (w7 a b c))),.sl (IT Hx (Hh (w7 a b c))),.sl (IT H7 (Hn (w7 a b c)))]
def lG (a:Ru):IU D:=IT Hq (HM (G7 a))
def lF (a:Ru):IU D:=IT ID (HN (G7 a))
def eI (a:Ru):IU D:=IT HV (Hz (G7 a))
def Ua (a:Ru):D:=Hd [.str (FX a),.bool (FW a),.int .i64 (FZ a),.sl (IT ID (GT a)),.int .i64 (Hj (G7 a)),.str (HE (G7 a)),.int .i64 (HB (G7 a)),.sl (lG a),.sl (lF a),.sl (eI a)]
def yl (a:Ru):IU D:=[Ua a]
def ZU (a:Ru):D:=zr [HI,EL,HX .i64,HK,HX .i64,HI,HX .i64,HK,HK,HK] (yl a) (IJ 0)
def ZT (a:Ru):Prop:=(0:Int)<=0/\some (Ua a)=some (ZU a)
def h29xq31:Prop:=IA 0 0=IA 0 0
def h29xq9:Prop:=IA 1 0=IA 1 0
def h29xq7:Prop:=IA 2 0=IA 2 0
def qj (a:Ru):Prop:=(↑(IR (yl a)):Int)=(↑(IR (yl a)):Int)
def tq (a:IU D):Prop:=(↑(IR a):Int)=(↑(IR a):Int)
def ZS (a:IU D) (b:Nat):Prop:=a=a/\tq a/\(0:Int)=(b:Int)/\IN
def qi (a:Sc) (b:Ru) (c:IU Int):Prop:=iJ a b c=iJ a b c/\IT H8 (Hg (w7 a b c))=IT H8 (Hg (w7 a b c))/\IT Hy (Hi (w7 a b c))=IT Hy (Hi (w7 a b c))/\IT Hx (Hh (w7 a b c))=IT Hx (Hh (w7 a b c))/\IT H7 (Hn (w7 a b c))=IT H7 (Hn (w7 a b c))/\yl b=yl b/\IT intD (GX (Cl a [b] c))=IT intD (GX (Cl a [b] c))/\IN
def un (a:Nat) (b:Ru):IU D:=IT IL (G8 a (FW b))
def sO (a:Nat) (b:Bool×Bool) (c:Bool×Bool):IU D:=HZ a [II (IT IL (bR b)),.sl (IT IL (bR c))]
def ZR (a:Ru):Int:=Hf (IB (z1 (yl a) (IJ 0) (0+1+1+1+1)) default)
def ZQ (a:Ru):IU UInt8:=Gc (IB (z1 (yl a) (IJ 0) (0+1+1+1+1+1)) default)
def ZP (a:Ru):Int:=Hf (IB (z1 (yl a) (IJ 0) (0+1+1+1+1+1+1)) default)
def ZO (a:Ru):IU D:=Gl (IB (z1 (yl a) (IJ 0) (0+1+1+1+1+1+1+1)) default)
def ZN (a:Ru):IU D:=Gl (IB (z1 (yl a) (IJ 0) (0+1+1+1+1+1+1+1+1)) default)
def UZ (a:Ru):IU D:=Gl (IB (z1 (yl a) (IJ 0) (0+1+1+1+1+1+1+1+1+1)) default)
def iH (a:Nat) (b:IU D):Bool:=decide ((a:Int)<(↑(IR b):Int))
def ZM (a:Nat) (b:IU D):Prop:=iH a b=true
def wL (a:IU D) (b:Nat):IU D:=Gl (IB (z1 a (IJ (b:Int)) 0) default)
def wK (a:Nat) (b:Bd) (c:Bd) (d:Int×Int) (e:Int×Int) (f:Nat):IU D:=IT HO (HZ a (Kk b c (dz d e f)))
def iG (a:Ru):Prop:=IT ID (GT a)=IT ID (GT a)
def qh (a:Ru):Int:=(↑(IR (IT ID (GT a))):Int)
def lE (a:Nat) (b:Ru) (c:Bool×Bool) (d:Bool×Bool):Prop:=un a b=un a b/\sO a c d=sO a c d/\(2:Int)=2/\IN
def oQ (a:Ru):Prop:=FX a=FX a/\FW a=FW a/\FZ a=FZ a/\iG a/\Hj (G7 a)=Hj (G7 a)/\HE (G7 a)=HE (G7 a)/\HB (G7 a)=HB (G7 a)/\lG a=lG a/\lF a=lF a/\eI a=eI a/\IN
def ZL (a:IU D) (b:Nat) (c:Nat):D:=IP .i64 (Hf (IB (z1 (wL a b) (IJ (c:Int)) 0) default))
def UY (a:IU D) (b:Nat) (c:Nat) (d:Ru):IU D:=G6 [Hd (G6 [(λ(x:Sh×Nat)=>match x with|(sh,j)=>GP sh (IB (z1 (Gl (IB (z1 a (IJ (b:Int)) 0) default)) (IJ (c:Int)) j) default)) (HX .i64,0),(λ(x:Sh×Nat)=>match x with|(sh,j)=>GP sh (IB (z1 (IT ID (GT d)) (IJ (c:Int)) j) default)) (HX .i64,0+1),(λ(x:Sh×Nat)=>match x with|(sh,j)=>GP sh (IB (z1 (IT ID (GT d)) (IJ (c:Int)) j) default)) (HI,0)])]
def ZK (a:Nat) (b:Nat):Prop:=Hr .i64 ((a:Int)+1)=(b:Int)/\IN
def lD (a:Ru):IU D:=[IL (FW a)]
def ZJ (a:Bool×Bool) (b:Bool×Bool) (c:Nat) (d:Nat):IU D:=[II (Ub (dz a b c) d)]
def ZI (a:Bool×Bool):D:=II [IL (Hw a),.bool (HL a)]
theorem JD (s:Sc) (r:Ru) (fz:IU Int) (w1 w2:IU Pl) (b1 b2:Bd) (t1 t2:Int×Int) (v1 v2:Bool×Bool) (hr:r.each=[b1,b2]) (h13:IK Tryz.prog G 13 [s.d,.int .i64 4096] (· = [.sl [xl w1,xl w2],.int .i64 0])) (h69:IK Tryz.prog G 69 [s.d,r.d] (· = [.sl [wz (tL t1),wz (tL t2)],.int .i64 0])) (h70:∀j k:Nat,j<2->k<2->IK Tryz.prog G 70 [s.d,xl (dz w1 w2 k),.sl ((Kk b1 b2 (dz t1 t2 j)).map HO),r.body.d] (· = [.bool (dz (dz v1 v2 j).1 (dz v1 v2 j).2 k),.int .i64 0])): IK Tryz.prog G 29 [(⟨s,[r],fz⟩:Pn).d] (· = [.agg [.sl [.bool r.hard,.bool r.hard],.sl [.sl ((bR v1).map .bool),.sl ((bR v2).map .bool)],.int .i64 2],.bool true]):=by
 have hd:r.d = .agg [.str r.name,.bool r.hard,.int .i64 r.weight,.sl [b1.d,b2.d],.int .i64 r.body.kind,.str r.body.name,.int .i64 r.body.n,.sl (r.body.ts.map Hq),.sl (r.body.bs.map ID),.sl (r.body.l.map HV)]:=by unfold Hm;rw[hr];rfl
 rw[yj];refine zu (LL [(4,zK Tryz.prog G (LL [(8,xH (α:=Nat) Tryz.prog G (λj=>LL [(12,ze (α:=Nat) Tryz.prog G L0 0 (z8 (z8 (z8 (z6 Tryz.f29) 0) 0) 0) [1,2,4,5,6,7,11,15,28,29,30,42,43,44,49,50] (λx=>x<=2) (λx=>2 - x) (λx=>[(12,.vec 5 (((Kk b1 b2 (dz t1 t2 j)).take x).map HO)),(51,.d (.int .i64 x))]) (λH x=>H.take 5++[FY x 3])),(18,L3 0 (ze (α:=Nat) Tryz.prog G L0 0 (z8 (z8 (z8 (z6 Tryz.f29) 0) 0) 1) [1,2,4,5,6,7,11,12,15,28,29,30,42,43,44,72,73] (λx=>x<=2) (λx=>2 - x) (λx=>[(74,.d (.int .i64 x))]) (λH x=>H.take 6++[Box.arr 1 (Ub (dz v1 v2 j) x)])))]) 0 (z8 (z8 (z6 Tryz.f29) 0) 0) [1,2,4,5,6,7,28,29,30,42,43] (λj=>j<=2) (λj=>2 - j) (λj=>[(44,.d (.int .i64 j))]) (λH j=>[H.getD 0 .dead]++JE r v1 v2 j)),(999999,λ_ _ _=>HD)]) (z8 (z6 Tryz.f29) 0) 2)]) Tryz.func29 ⟨_,rfl⟩ (zt (zS mixed (zp.one' (b1:=z8 (z8 (z6 Tryz.f29) 0) 0) (by kernel_rfl) (by kernel_rfl) (zA mixed (λ_=>pA zz (WX zz)))) 2)) ?_;apply @z7 _ (IK Tryz.prog G 13 [iI s r fz,.int .i64 4096] λ(rs:IU D)=>∃(l:IU D)(n:Int),rs=[II l,.int .i64 n]/\ZT r/\IK Tryz.prog G 69 [iI s r fz,ZU r] λ(rs:IU D)=>∃(l_1:IU D)(n_1:Int),rs=[II l_1,.int .i64 n_1]/\∃(x0:Nat),x0<=2/\((h29xq31/\h29xq9/\l=l/\n=n/\(0:Int)=0/\h29xq7/\yl r=yl r/\qj r/\(0:Int)=0/\ZS l_1 x0)/\qi s r fz/\(([]=un x0 r/\IR ([]:IU D)<=x0)/\([]=sO x0 v1 v2/\IR ([]:IU D)<=x0)/\(↑(IR l):Int)=2/\IN)/\(Gc (IB (z1 (yl r) (IJ 0) 0) default)=FX r/\E8 (IB (z1 (yl r) (IJ 0) (0+1)) default)=FW r/\Hf (IB (z1 (yl r) (IJ 0) (0+1+1)) default)=FZ r/\Gl (IB (z1 (yl r) (IJ 0) (0+1+1+1)) default)=IT ID (GT r)/\ZR r=Hj (G7 r)/\ZQ r=HE (G7 r)/\ZP r=HB (G7 r)/\ZO r=lG r/\ZN r=lF r/\UZ r=eI r/\IN)/\IN)/\∀(x:Nat),x<=2->(ZM x l_1->((0:Int)<=(x:Int)/\l_1[IJ (x:Int)]? = some (II (wL l_1 x)))/\∃(x0:Nat),x0<=2/\((h29xq31/\h29xq9/\l=l/\n=n/\(0:Int)=0/\h29xq7/\wL l_1 x=wL l_1 x/\([]=wK x0 b1 b2 t1 t2 x/\IR ([]:IU D)<=x0)/\yl r=yl r/\qj r/\(0:Int)=0/\l_1=l_1/\tq l_1/\(x:Int)=(x:Int)/\iG r/\qh r=qh r/\(0:Int)=(x0:Int)/\IN)/\qi s r fz/\lE x r v1 v2/\oQ r/\x=x/\x=x/\IN)/\∀(x_1:Nat),x_1<=2->(decide ((x_1:Int)<qh r)=true->((0: Int)<=(x_1:Int)/\(IT ID (GT r))[IJ (x_1:Int)]? = some (zr [HI,HX .i64] (IT ID (GT r)) (IJ (x_1:Int))))/\((0:Int)<=(x_1:Int)/\(wL l_1 x)[IJ (x_1:Int)]? = some (ZL l_1 x x_1))/\(x_1=IR (wK x_1 b1 b2 t1 t2 x)/\3=3/\FA (wK x_1 b1 b2 t1 t2 x) [Hd [.str (Gc (IB (z1 (IT ID (GT r)) (IJ (x_1:Int)) 0) default)),.int .i64 (Hf (IB (z1 (IT ID (GT r)) (IJ (x_1:Int)) (0+1)) default)),ZL l_1 x x_1]] (nat_lit 3) (nat_lit 32))/\∃(y:Nat),y<=2/\2 - y<2 - x_1/\(h29xq31/\h29xq9/\l=l/\n=n/\(0:Int)=0/\h29xq7/\wL l_1 x=wL l_1 x/\wK x_1 b1 b2 t1 t2 x++UY l_1 x x_1 r=wK y b1 b2 t1 t2 x/\yl r=yl r/\qj r/\(0:Int)=0/\l_1=l_1/\tq l_1/\(x:Int)=(x:Int)/\iG r/\qh r=qh r/\ZK x_1 y)/\qi s r fz/\lE x r v1 v2/\oQ r/\x=x/\x=x/\IR (wK x_1 b1 b2 t1 t2 x)+IR (UY l_1 x x_1 r)=y/\IN)/\(decide ((x_1:Int)<qh r)=false->(tq l/\(0:Int)<=(↑(IR l):Int)/\(↑(IR l):Int)<=1000000000/\(↑1:Int)*(↑(IR l):Int)<=281474976710656)/\∃(x0:Nat),x0<=2/\((h29xq31/\h29xq9/\l=l/\n=n/\(0:Int)=0/\h29xq7/\wL l_1 x=wL l_1 x/\wK x_1 b1 b2 t1 t2 x=wK x_1 b1 b2 t1 t2 x/\F1 6=F1 6/\yl r=yl r/\qj r/\(0:Int)=0/\l_1=l_1/\tq l_1/\(x:Int)=(x:Int)/\ZS l x0)/\qi s r fz/\lE x r v1 v2/\oQ r/\x=x/\x=x/\x_1=x_1/\G8 (IJ (↑(IR l):Int)) (IL false)=Ub (dz v1 v2 x) x0/\IN)/\∀(x_2:Nat),x_2<=2->(ZM x_2 l->((0:Int)<=(x_2:Int)/\l[IJ (x_2:Int)]? = some (zr [HK] l (IJ (x_2:Int))))/\ZT r/\IK Tryz.prog G 70 [iI s r fz,zr [HK] l (IJ (x_2:Int)),.sl (wK x_1 b1 b2 t1 t2 x),.agg [.int .i64 (ZR r),.str (ZQ r),.int .i64 (ZP r),.sl (ZO r),.sl (ZN r),.sl (UZ r)]] λ(rs:IU D)=>∃(b:Bool)(n_2:Int),rs=[IL b,.int .i64 n_2]/\((0:Int)<=(x_2:Int)/\IJ (x_2:Int)<IR (Ub (dz v1 v2 x) x_2))/\IJ (x_2:Int)<IR (Ub (dz v1 v2 x) x_2)/\∃(y:Nat),y<=2/\2 - y<2 - x_2/\(h29xq31/\h29xq9/\l=l/\n=n/\(0:Int)=0/\h29xq7/\wL l_1 x=wL l_1 x/\wK x_1 b1 b2 t1 t2 x=wK x_1 b1 b2 t1 t2 x/\F1 6=F1 6/\yl r = yl r/\qj r/\(0:Int)=0/\l_1=l_1/\tq l_1/\(x:Int)=(x:Int)/\l=l/\tq l/\ZK x_2 y)/\qi s r fz/\lE x r v1 v2/\oQ r/\x=x/\x=x/\x_1=x_1/\wS (Ub (dz v1 v2 x) x_2) (IJ (x_2:Int)) 0 (G6 [Wz false [IL b]])=Ub (dz v1 v2 x) y/\IN)/\(iH x_2 l=false->(x=IR (un x r)/\1=1/\FA (un x r) (lD r) (nat_lit 1) (nat_lit 1))/\(x=IR (sO x v1 v2)/\1=1/\FA (sO x v1 v2) (ZJ v1 v2 x x_2) (nat_lit 1) (nat_lit 24))/\∃(y:Nat),y<=2/\2 - y<2 - x/\(h29xq31/\h29xq9/\l=l/\n=n/\(0:Int)=0/\h29xq7/\yl r=yl r/\qj r/\(0:Int)=0/\l_1=l_1/\tq l_1/\ZK x y)/\qi s r fz/\(un x r++G6 (lD r)=un y r/\sO x v1 v2++G6 (ZJ v1 v2 x x_2)=sO y v1 v2/\(2:Int)=2/\IN)/\oQ r/\IR (un x r)+IR (G6 (lD r))=y/\IR (sO x v1 v2)+IR (G6 (ZJ v1 v2 x x_2))=y/\IN)))/\(iH x l_1=false->[Hd [.sl (un x r),.sl (sO x v1 v2),.int .i64 2],.bool (n==0)]=[Hd [.sl (IL (FW r)::lD r),.sl [ZI v1,ZI v2],.int .i64 2],.bool true]))
 ·kernel_rfl
 delta iI iJ w7 ZT Ua lG lF eI ZU yl h29xq31 h29xq9 h29xq7 qj ZS tq qi un sO ZR ZQ ZP ZO ZN UZ ZM iH wL wK iG qh lE oQ ZL UY ZK lD ZJ ZI;clear hd;obtain⟨nm,hd,wt,each,body⟩:=r;dsimp only at hr;subst hr;rw[zj]at *;simp only[zj,yf body]at h70;refine h13.use ⟨_,_,rfl,⟨by (first|decide|exact GC rfl|exact G0 rfl|(simp;done)|omega),rfl⟩,h69.use ⟨_,_,rfl,0,by omega,by and_intros<;>first|rfl|trivial|(first|decide|exact GC rfl|exact G0 rfl|(simp;done)|omega),λj hj=>⟨λhlt=>?_,λhge=>?_⟩⟩⟩
 ·have hj2:j=0∨j=1:=by simp only[F2,FL,HS]at hlt;omega
  refine⟨?_,0,by omega,?_,λk hk=>⟨λhlt2=>?_,λhge2=>?_⟩⟩
  ·rcases hj2 with rfl|rfl<;>exact⟨by (first|decide|exact GC rfl|exact G0 rfl|(simp;done)|omega),rfl⟩
  ·and_intros<;>first|rfl|trivial|(first|decide|exact GC rfl|exact G0 rfl|(simp;done)|omega)
  ·have hk2:k=0∨k=1:=by simp only[Gb,FQ,F2,FL,HS]at hlt2;omega
   refine⟨?_,?_,?_,k+1,by omega,by omega,?_⟩
   ·rcases hk2 with rfl|rfl<;>exact⟨by (first|decide|exact GC rfl|exact G0 rfl|(simp;done)|omega),rfl⟩
   ·rcases hj2 with rfl|rfl<;>rcases hk2 with rfl|rfl<;>exact⟨by (first|decide|exact GC rfl|exact G0 rfl|(simp;done)|omega),rfl⟩
   ·rcases hj2 with rfl|rfl<;>rcases hk2 with rfl|rfl<;>exact⟨rfl,rfl,⟨rfl,by (first|decide|exact GC rfl|exact G0 rfl|(simp;done)|omega)⟩⟩
   ·rcases hj2 with rfl|rfl<;>rcases hk2 with rfl|rfl<;>(and_intros<;>first|rfl|trivial|(first|decide|exact GC rfl|exact G0 rfl|(simp;done)|omega))
  ·have hk2:k=2:=by simp only[Gb,FQ,F2,FL,HH]at hge2;omega
   subst hk2;refine⟨⟨by simp,by simp,by simp⟩,0,by omega,?_,λm hm=>⟨λhlt3=>?_,λhge3=>?_⟩⟩
   ·rcases hj2 with rfl|rfl<;>(and_intros<;>first|rfl|trivial|(first|decide|exact GC rfl|exact G0 rfl|(simp;done)|omega))
   ·have hm2:m=0∨m=1:=by simp only[F2,FL,HS]at hlt3;omega
    refine⟨?_,⟨by (first|decide|exact GC rfl|exact G0 rfl|(simp;done)|omega),rfl⟩,?_⟩
    ·rcases hm2 with rfl|rfl<;>exact⟨by (first|decide|exact GC rfl|exact G0 rfl|(simp;done)|omega),rfl⟩
    ·rcases hj2 with rfl|rfl<;>rcases hm2 with rfl|rfl
     ·refine(h70 0 0 (by omega) (by omega)).use ⟨_,_,rfl,?_⟩;exact⟨⟨by (first|decide|exact GC rfl|exact G0 rfl|(simp;done)|omega),by (first|decide|exact GC rfl|exact G0 rfl|(simp;done)|omega)⟩,by (first|decide|exact GC rfl|exact G0 rfl|(simp;done)|omega),1,by omega,by omega,by and_intros<;>first|rfl|trivial|(first|decide|exact GC rfl|exact G0 rfl|(simp;done)|omega)⟩
     ·refine(h70 0 1 (by omega) (by omega)).use ⟨_,_,rfl,?_⟩;exact⟨⟨by (first|decide|exact GC rfl|exact G0 rfl|(simp;done)|omega),by (first|decide|exact GC rfl|exact G0 rfl|(simp;done)|omega)⟩,by (first|decide|exact GC rfl|exact G0 rfl|(simp;done)|omega),2,by omega,by omega,by and_intros<;>first|rfl|trivial|(first|decide|exact GC rfl|exact G0 rfl|(simp;done)|omega)⟩
     ·refine(h70 1 0 (by omega) (by omega)).use ⟨_,_,rfl,?_⟩;exact⟨⟨by (first|decide|exact GC rfl|exact G0 rfl|(simp;done)|omega),by (first|decide|exact GC rfl|exact G0 rfl|(simp;done)|omega)⟩,by (first|decide|exact GC rfl|exact G0 rfl|(simp;done)|omega),1,by omega,by omega,by and_intros<;>first|rfl|trivial|(first|decide|exact GC rfl|exact G0 rfl|(simp;done)|omega)⟩
     ·refine(h70 1 1 (by omega) (by omega)).use ⟨_,_,rfl,?_⟩;exact⟨⟨by (first|decide|exact GC rfl|exact G0 rfl|(simp;done)|omega),by (first|decide|exact GC rfl|exact G0 rfl|(simp;done)|omega)⟩,by (first|decide|exact GC rfl|exact G0 rfl|(simp;done)|omega),2,by omega,by omega,by and_intros<;>first|rfl|trivial|(first|decide|exact GC rfl|exact G0 rfl|(simp;done)|omega)⟩
   ·have hm2:m=2:=by simp only[F2,FL,HH]at hge3;omega
    subst hm2;rcases hj2 with rfl|rfl
    ·exact⟨⟨rfl,rfl,⟨rfl,by (first|decide|exact GC rfl|exact G0 rfl|(simp;done)|omega)⟩⟩,⟨rfl,rfl,⟨rfl,by (first|decide|exact GC rfl|exact G0 rfl|(simp;done)|omega)⟩⟩,1,by omega,by omega,by and_intros<;>first|rfl|trivial|(first|decide|exact GC rfl|exact G0 rfl|(simp;done)|omega)⟩
    ·exact⟨⟨rfl,rfl,⟨rfl,by (first|decide|exact GC rfl|exact G0 rfl|(simp;done)|omega)⟩⟩,⟨rfl,rfl,⟨rfl,by (first|decide|exact GC rfl|exact G0 rfl|(simp;done)|omega)⟩⟩,2,by omega,by omega,by and_intros<;>first|rfl|trivial|(first|decide|exact GC rfl|exact G0 rfl|(simp;done)|omega)⟩
 ·have hj2:j=2:=by simp only[F2,FL,HH]at hge;omega
  subst hj2;rfl
end
inductive NilD:IU D->Prop
 |mk:NilD []
def LX (l:IU (Nat×LW)):Loops:=LL (l++[(999999,λ_ _ _=>HD)])
section
variable {P:HP}{G:Nat->IQ (IU D)}{rd:IQ Nat}{n:Nat}
theorem zp.none {L:Loops}{code:He}(h:(loopsOf code).all (λb=>(L (loopId b)).isNone)=true):zp P G rd n L (loopsOf code):=by intro b hb W hW;have:=G3.1 h b hb;rw[hW]at this;cases this
theorem zp.oneX {code b1:He}{i1:Nat}{W1:LW}(h:loopsOf code=[b1]) (e1:LX [(i1,W1)] (loopId b1)=some W1) (h1:yD P G rd n b1 W1):zp P G rd n (LX [(i1,W1)]) (loopsOf code) := .of h (.cons e1 h1 .nil)
theorem zp.twoX {code b1 b2:He}{i1 i2:Nat}{W1 W2:LW}(h:loopsOf code=[b1,b2]) (e1:LX [(i1,W1),(i2,W2)] (loopId b1)=some W1) (e2:LX [(i1,W1),(i2,W2)] (loopId b2)=some W2) (h1:yD P G rd n b1 W1) (h2:yD P G rd n b2 W2):zp P G rd n (LX [(i1,W1),(i2,W2)]) (loopsOf code) := .of h (.cons e1 h1 (.cons e2 h2 .nil))
end
section
variable {G:Nat->IQ (IU D)}
def c239_0q2:IU UInt8:=[(8:UInt8),(8:UInt8),(8:UInt8),(8:UInt8),(8:UInt8),(8:UInt8),(8:UInt8),(8:UInt8),(8:UInt8),(8:UInt8),(8:UInt8),(8:UInt8),(8:UInt8),(8:UInt8),(8:UInt8),(8:UInt8),(8:UInt8),(8:UInt8),(8:UInt8),(8:UInt8),(8:UInt8),(8:UInt8),(8:UInt8),(8:UInt8),(8:UInt8),(8:UInt8),(8:UInt8),(8:UInt8),(8:UInt8),(8:UInt8),(8:UInt8),(8:UInt8),(8:UInt8),(8:UInt8),(8:UInt8),(8:UInt8),(8:UInt8),(8:UInt8),(8:UInt8),(8:UInt8),(8:UInt8),(8:UInt8),(8:UInt8),(8:UInt8),(8:UInt8),(8:UInt8),(8:UInt8),(8:UInt8),(8:UInt8),(8:UInt8),(8:UInt8),(8:UInt8),(8:UInt8),(8:UInt8),(8:UInt8),(8:UInt8),(8:UInt8),(8:UInt8),(8:UInt8),(8:UInt8),(8:UInt8),(8:UInt8),(8:UInt8),(8:UInt8)]
def c239_0q1:IU UInt8:=Gx (Gy (Gu (IU.toArray (D9 (D9 [(0:UInt8),(1:UInt8),(2:UInt8),(2:UInt8),(3:UInt8),(3:UInt8),(3:UInt8),(3:UInt8),(4:UInt8),(4:UInt8),(4:UInt8),(4:UInt8),(4:UInt8),(4:UInt8),(4:UInt8),(4:UInt8),(5:UInt8),(5:UInt8),(5:UInt8),(5:UInt8),(5:UInt8),(5:UInt8),(5:UInt8),(5:UInt8),(5:UInt8),(5:UInt8),(5:UInt8),(5:UInt8),(5:UInt8),(5:UInt8),(5:UInt8),(5:UInt8),(6:UInt8),(6:UInt8),(6:UInt8),(6:UInt8),(6:UInt8),(6:UInt8),(6:UInt8),(6:UInt8),(6:UInt8),(6:UInt8),(6:UInt8),(6:UInt8),(6:UInt8),(6:UInt8),(6:UInt8),(6:UInt8),(6:UInt8),(6:UInt8),(6:UInt8),(6:UInt8),(6:UInt8),(6:UInt8),(6:UInt8),(6:UInt8),(6:UInt8),(6:UInt8),(6:UInt8),(6: UInt8),(6:UInt8),(6:UInt8),(6:UInt8),(6:UInt8)] [(7:UInt8),(7:UInt8),(7:UInt8),(7:UInt8),(7:UInt8),(7:UInt8),(7:UInt8),(7:UInt8),(7:UInt8),(7:UInt8),(7:UInt8),(7:UInt8),(7:UInt8),(7:UInt8),(7:UInt8),(7:UInt8),(7:UInt8),(7:UInt8),(7:UInt8),(7:UInt8),(7:UInt8),(7:UInt8),(7:UInt8),(7:UInt8),(7:UInt8),(7:UInt8),(7:UInt8),(7:UInt8),(7:UInt8),(7:UInt8),(7:UInt8),(7:UInt8),(7:UInt8),(7:UInt8),(7:UInt8),(7:UInt8),(7:UInt8),(7:UInt8),(7:UInt8),(7:UInt8),(7:UInt8),(7:UInt8),(7:UInt8),(7:UInt8),(7:UInt8),(7:UInt8),(7:UInt8),(7:UInt8),(7:UInt8),(7:UInt8),(7:UInt8),(7:UInt8),(7:UInt8),(7:UInt8),(7:UInt8),(7:UInt8),(7:UInt8),(7:UInt8),(7:UInt8),(7:UInt8),(7:UInt8),(7:UInt8),(7:UInt8),(7:UInt8)]) (D9 c239_0q2 c239_0q2)))))
theorem c239_0:IK Tryz.prog G 239 [.int .u64 0] (· = [.int .i64 0]):=by
 refine zu (LX []) Tryz.func239 ⟨_,rfl⟩ (zp.none (by kernel_rfl)) ?_;apply @z7 _ ((0<=Hr .u8 0/\IJ (Hr .u8 0)<IR c239_0q1)/\[IP .i64 (Hr .i64 (0+Hr .i64 (↑(B9 (DF c239_0q1 (IJ (Hr .u8 0)) (0:UInt8))):Int)))]=[IP .i64 0])
 ·kernel_rfl
 delta c239_0q1 c239_0q2;exact⟨⟨by decide,by decide⟩,by kernel_rfl⟩
theorem c199_0:IK Tryz.prog G 199 [.int .u64 0] (· = [.int .i64 0]):=by
 refine zu (LX []) Tryz.func199 ⟨_,rfl⟩ (zp.none (by kernel_rfl)) ?_;apply @z7 _ (IK Tryz.prog G 239 [IP .u64 0] λ(rs:IU D)=>∃(n:Int),rs=[IP .i64 n]/\[IP .i64 n]=[IP .i64 0])
 ·kernel_rfl
 exact c239_0.use ⟨_,rfl,rfl⟩
theorem c239_1:IK Tryz.prog G 239 [.int .u64 1] (· = [.int .i64 1]):=by
 refine zu (LX []) Tryz.func239 ⟨_,rfl⟩ (zp.none (by kernel_rfl)) ?_;apply @z7 _ ((0<=Hr .u8 1/\IJ (Hr .u8 1)<IR c239_0q1)/\[IP .i64 (Hr .i64 (0+Hr .i64 (↑(B9 (DF c239_0q1 (IJ (Hr .u8 1)) (0:UInt8))):Int)))]=[IP .i64 1])
 ·kernel_rfl
 delta c239_0q1 c239_0q2;exact⟨⟨by decide,by decide⟩,by kernel_rfl⟩
theorem c199_1:IK Tryz.prog G 199 [.int .u64 1] (· = [.int .i64 1]):=by
 refine zu (LX []) Tryz.func199 ⟨_,rfl⟩ (zp.none (by kernel_rfl)) ?_;apply @z7 _ (IK Tryz.prog G 239 [IP .u64 1] λ(rs:IU D)=>∃(n:Int),rs=[IP .i64 n]/\[IP .i64 n]=[IP .i64 1])
 ·kernel_rfl
 exact c239_1.use ⟨_,rfl,rfl⟩
theorem c230_0:IK Tryz.prog G 230 [.sl [],.int .i64 0,.int .i64 0,.fn 166] NilD:=by
 refine zu (LX [(1,zK Tryz.prog G (LX []) (z8 (z6 Tryz.f230) 0) 2)]) Tryz.func230 ⟨_,.mk⟩ (zp.oneX (b1:=(z8 (z6 Tryz.f230) 0)) (by kernel_rfl) (by kernel_rfl) (zS mixed (zp.none (by kernel_rfl)) _)) ?_;apply @z7 _ (NilD (G6 ([]:IU D)))
 ·kernel_rfl
 exact .mk
theorem c198_0:IK Tryz.prog G 198 [.sl [],.int .i64 0,.int .i64 0,.int .i64 0,.fn 166] NilD:=by
 refine zu (LX [(2,zK Tryz.prog G (LX []) (z8 (z6 Tryz.f198) 0) 2)]) Tryz.func198 ⟨_,.mk⟩ (zp.oneX (b1:=(z8 (z6 Tryz.f198) 0)) (by kernel_rfl) (by kernel_rfl) (zS mixed (zp.none (by kernel_rfl)) _)) ?_;apply @z7 _ (IK Tryz.prog G 230 [II [],.int .i64 0,.int .i64 0,.fn 166] λ(rs:IU D)=>rs=[]/\NilD (G6 ([]:IU D)))
 ·kernel_rfl
 exact c230_0.mono (by rintro _ ⟨⟩;exact⟨rfl,.mk⟩)
theorem c165_0:IK Tryz.prog G 165 [.sl [],.fn 166] NilD:=by
 refine zu (LX []) Tryz.func165 ⟨_,.mk⟩ (zp.none (by kernel_rfl)) ?_;apply @z7 _ (IK Tryz.prog G 199 [IP .u64 (Hr .u64 (↑(IR ([]:IU D)):Int))] λ(rs:IU D)=>∃(n:Int),rs=[IP .i64 n]/\IK Tryz.prog G 198 [II [],.int .i64 0,.int .i64 (↑(IR ([]:IU D)):Int),.int .i64 n,.fn 166] λ(rs:IU D)=>rs=[]/\NilD (G6 ([]:IU D)))
 ·kernel_rfl
 exact c199_0.use ⟨_,rfl,c198_0.mono (by rintro _ ⟨⟩;exact⟨rfl,.mk⟩)⟩
theorem c129_0:IK Tryz.prog G 129 [.sl []] (· = [.sl []]):=by
 refine zu (LX []) Tryz.func129 ⟨_,rfl⟩ (zp.none (by kernel_rfl)) ?_;apply @z7 _ (IK Tryz.prog G 165 [II [],.fn 166] λ(rs:IU D)=>rs=[]/\[II []]=[II []])
 ·kernel_rfl
 exact c165_0.mono (by rintro _ ⟨⟩;exact⟨rfl,rfl⟩)
theorem c230_1:IK Tryz.prog G 230 [.sl [.sl []],.int .i64 0,.int .i64 1,.fn 166] NilD:=by
 refine zu (LX [(1,zK Tryz.prog G (LX []) (z8 (z6 Tryz.f230) 0) 2)]) Tryz.func230 ⟨_,.mk⟩ (zp.oneX (b1:=(z8 (z6 Tryz.f230) 0)) (by kernel_rfl) (by kernel_rfl) (zS mixed (zp.none (by kernel_rfl)) _)) ?_;apply @z7 _ (NilD (G6 ([]:IU D)))
 ·kernel_rfl
 exact .mk
theorem c198_1:IK Tryz.prog G 198 [.sl [.sl []],.int .i64 0,.int .i64 1,.int .i64 1,.fn 166] NilD:=by
 refine zu (LX [(2,zK Tryz.prog G (LX []) (z8 (z6 Tryz.f198) 0) 2)]) Tryz.func198 ⟨_,.mk⟩ (zp.oneX (b1:=(z8 (z6 Tryz.f198) 0)) (by kernel_rfl) (by kernel_rfl) (zS mixed (zp.none (by kernel_rfl)) _)) ?_;apply @z7 _ (IK Tryz.prog G 230 [II [II []],.int .i64 0,.int .i64 1,.fn 166] λ(rs:IU D)=>rs=[]/\NilD (G6 ([]:IU D)))
 ·kernel_rfl
 exact c230_1.mono (by rintro _ ⟨⟩;exact⟨rfl,.mk⟩)
theorem c165_1:IK Tryz.prog G 165 [.sl [.sl []],.fn 166] NilD:=by
 refine zu (LX []) Tryz.func165 ⟨_,.mk⟩ (zp.none (by kernel_rfl)) ?_;apply @z7 _ (IK Tryz.prog G 199 [IP .u64 (Hr .u64 (↑(IR [II []]):Int))] λ(rs:IU D)=>∃(n:Int),rs=[IP .i64 n]/\IK Tryz.prog G 198 [II [II []],.int .i64 0,.int .i64 (↑(IR [II []]):Int),.int .i64 n,.fn 166] λ(rs:IU D)=>rs=[]/\NilD (G6 ([]:IU D)))
 ·kernel_rfl
 exact c199_1.use ⟨_,rfl,c198_1.mono (by rintro _ ⟨⟩;exact⟨rfl,.mk⟩)⟩
theorem c129_1:IK Tryz.prog G 129 [.sl [.sl []]] (· = [.sl [.sl []]]):=by
 refine zu (LX []) Tryz.func129 ⟨_,rfl⟩ (zp.none (by kernel_rfl)) ?_;apply @z7 _ (IK Tryz.prog G 165 [II [II []],.fn 166] λ(rs:IU D)=>rs=[]/\[II [II []]]=[II [II []]])
 ·kernel_rfl
 exact c165_1.mono (by rintro _ ⟨⟩;exact⟨rfl,rfl⟩)
def c71_hq1:IU Box:=[Eh [],.cells 30 [.d (.sl [])]]
theorem c71_h:HY Tryz.prog G 71 [.d (.sl []),.clo 124 [] [.ptr 1 0]] ([.map [],.cells 30 [.d (.sl [])]]) (λrs H'=>rs=[.int .i64 (-1)]/\H'=[.map [],.cells 30 [.d (.sl [])]]):=by
 refine zZ (LX [(2,zK Tryz.prog G (LX []) (z8 (z6 Tryz.f71) 0) 1)]) Tryz.func71 rfl ⟨_,_,rfl,rfl⟩ (zp.oneX (b1:=(z8 (z6 Tryz.f71) 0)) (by kernel_rfl) (by kernel_rfl) (zS mixed (zp.none (by kernel_rfl)) _)) ?_;apply @z7 _ ([IP .i64 (-1)]=[IP .i64 (-1)]/\c71_hq1=c71_hq1)
 ·kernel_rfl
 delta c71_hq1;exact⟨rfl,rfl⟩
def oP (a:IU (D×D)) (b:IU D):IU Box:=[Eh a,.cells 30 [.d (.sl b)]]
theorem c32_h:HY Tryz.prog G 32 [.d (.sl []),.clo 124 [] [.ptr 1 0]] ([.map [],.cells 30 [.d (.sl [])]]) (λrs H'=>rs=[.bool false]/\H'=[.map [],.cells 30 [.d (.sl [])]]):=by
 refine zZ (LX []) Tryz.func32 rfl ⟨_,_,rfl,rfl⟩ (zp.none (by kernel_rfl)) ?_;apply @z7 _ (HY Tryz.prog G 71 [IH (.sl []),.clo 124 [] [IA 1 0]] c71_hq1 λ(rs:IU D) (H':IU Box)=>∃(n:Int),rs=[IP .i64 n]/\∃(es:IU (D×D)),∃(l:IU D),H'=oP es l/\[IL (decide (n>=0))]=[IL false]/\oP es l=c71_hq1)
 ·kernel_rfl
 delta c71_hq1 oP;refine c71_h.mono ?_;rintro rs H' ⟨rfl,rfl⟩;exact⟨_,rfl,_,_,rfl,rfl,rfl⟩
theorem c127_0:IK Tryz.prog G 127 [.sl [],.fn 128] (· = [.sl []]):=by
 refine zu (LX [(3,zK Tryz.prog G (LX []) (z8 (z6 Tryz.f127) 0) 1)]) Tryz.func127 ⟨_,rfl⟩ (zp.oneX (b1:=(z8 (z6 Tryz.f127) 0)) (by kernel_rfl) (by kernel_rfl) (zS mixed (zp.none (by kernel_rfl)) _)) ?_;apply @z7 _ ([II []]=[II []])
 ·kernel_rfl
 rfl
theorem c77_0:IK Tryz.prog G 77 [.sl []] (· = [.sl [.sl []],.int .i64 0]):=by
 refine zu (LX [(3,zK Tryz.prog G (LX [(6,zK Tryz.prog G (LX []) (z8 (z8 (z6 Tryz.f77) 0) 0) 1)]) (z8 (z6 Tryz.f77) 0) 2),(17,zK Tryz.prog G (LX [(21,zK Tryz.prog G (LX [(26,zK Tryz.prog G (LX []) (z8 (z8 (z8 (z6 Tryz.f77) 1) 0) 0) 1)]) (z8 (z8 (z6 Tryz.f77) 1) 0) 2)]) (z8 (z6 Tryz.f77) 1) 2)]) Tryz.func77 ⟨_,rfl⟩ (zp.twoX (b1:=(z8 (z6 Tryz.f77) 0)) (b2:=(z8 (z6 Tryz.f77) 1)) (by kernel_rfl) (by kernel_rfl) (by kernel_rfl) (zS mixed (zp.oneX (b1:=(z8 (z8 (z6 Tryz.f77) 0) 0)) (by kernel_rfl) (by kernel_rfl) (zS mixed (zp.none (by kernel_rfl)) _)) _) (zS mixed (zp.oneX (b1:=(z8 (z8 (z6 Tryz.f77) 1) 0)) (by kernel_rfl) (by kernel_rfl) (zS mixed (zp.oneX (b1:=(z8 (z8 (z8 (z6 Tryz.f77) 1) 0) 0)) (by kernel_rfl) (by kernel_rfl) (zS mixed (zp.none (by kernel_rfl)) _)) _)) _)) ?_;apply @z7 _ (IK Tryz.prog G 129 [II [II []]] λ(rs:IU D)=>∃(l:IU D),rs=[II l]/\[II l,.int .i64 0]=[II [II []],.int .i64 0])
 ·kernel_rfl
 exact c129_1.use ⟨_,rfl,rfl⟩
def c77_1q1:Prop:=(0:Int)<=0/\some (II [])=some (II [])
def iF (a:IU D) (b:Nat->IQ (IU D)):Prop:= ∃(l:IU D),a=[II l]/\IK Tryz.prog b 129 [II l] λ(rs:IU D)=>∃(l:IU D),rs=[II l]/\[II l,.int .i64 0]=[II [],.int .i64 0]
def lC (a:IU D):D:=IP .i64 (Hf (IB (z1 a (IJ 0) 0) default))
theorem c77_1:IK Tryz.prog G 77 [.sl [.sl []]] (· = [.sl [],.int .i64 0]):=by
 refine zu (LX [(3,zK Tryz.prog G (LX [(6,zK Tryz.prog G (LX []) (z8 (z8 (z6 Tryz.f77) 0) 0) 1)]) (z8 (z6 Tryz.f77) 0) 2),(17,zK Tryz.prog G (LX [(21,zK Tryz.prog G (LX [(26,zK Tryz.prog G (LX []) (z8 (z8 (z8 (z6 Tryz.f77) 1) 0) 0) 1)]) (z8 (z8 (z6 Tryz.f77) 1) 0) 2)]) (z8 (z6 Tryz.f77) 1) 2)]) Tryz.func77 ⟨_,rfl⟩ (zp.twoX (b1:=(z8 (z6 Tryz.f77) 0)) (b2:=(z8 (z6 Tryz.f77) 1)) (by kernel_rfl) (by kernel_rfl) (by kernel_rfl) (zS mixed (zp.oneX (b1:=(z8 (z8 (z6 Tryz.f77) 0) 0)) (by kernel_rfl) (by kernel_rfl) (zS mixed (zp.none (by kernel_rfl)) _)) _) (zS mixed (zp.oneX (b1:=(z8 (z8 (z6 Tryz.f77) 1) 0)) (by kernel_rfl) (by kernel_rfl) (zS mixed (zp.oneX (b1:=(z8 (z8 (z8 (z6 Tryz.f77) 1) 0) 0)) (by kernel_rfl) (by kernel_rfl) (zS mixed (zp.none (by kernel_rfl)) _)) _)) _)) ?_;apply @z7 _ (c77_1q1/\c77_1q1/\c77_1q1/\HY Tryz.prog G 32 [IH (.sl []),.clo 124 [] [IA 1 0]] c71_hq1 λ(rs:IU D) (H':IU Box)=>∃(b:Bool),rs=[IL b]/\∃(es:IU (D×D)),∃(l:IU D),H'=oP es l/\bif b then FA [] [II []] (nat_lit 1) (nat_lit 24)/\IK Tryz.prog G 127 [II [II []],.fn 128] λ(rs:IU D)=>iF rs G else bif decide ((0:Int)<(↑(IR l):Int))then((0:Int)<=0/\l[IJ 0]? = some (lC l))/\IK Tryz.prog G 125 [II [],lC l] λ(rs:IU D)=>∃(n:Int)(b:Bool),rs=[IP .i64 n,.bool b]/\PFnV Tryz.prog G 35 [II []] 1 λ(l_1:IU D)=>IK Tryz.prog G 126 [II l_1,.int .i64 n,.sl [lC l]] λ(rs:IU D)=>∃(l:IU D),rs=[II l]/\FA [] [II l] (nat_lit 1) (nat_lit 24)/\HD else IK Tryz.prog G 127 [II [],.fn 128] λ(rs:IU D)=>iF rs G)
 ·kernel_rfl
 delta c77_1q1 c71_hq1 oP iF lC;refine⟨⟨by decide,rfl⟩,⟨by decide,rfl⟩,⟨by decide,rfl⟩,c32_h.mono ?_⟩;rintro rs H' ⟨rfl,rfl⟩;refine⟨_,rfl,_,_,rfl,?_⟩;exact c127_0.use ⟨_,rfl,c129_0.use ⟨_,rfl,rfl⟩⟩
theorem c79:IK Tryz.prog G 79 [.sl [],.sl []] (· = [.bool true]):=by
 refine zu (LX [(4,zK Tryz.prog G (LX []) (z8 (z6 Tryz.f79) 0) 1)]) Tryz.func79 ⟨_,rfl⟩ (zp.oneX (b1:=(z8 (z6 Tryz.f79) 0)) (by kernel_rfl) (by kernel_rfl) (zS mixed (zp.none (by kernel_rfl)) _)) ?_;apply @z7 _ ([IL true]=[IL true])
 ·kernel_rfl
 rfl
theorem c78_0:IK Tryz.prog G 78 [.sl [],.sl [],.fn 79] (· = [.bool true]):=by
 refine zu (LX [(4,zK Tryz.prog G (LX []) (z8 (z6 Tryz.f78) 0) 1)]) Tryz.func78 ⟨_,rfl⟩ (zp.oneX (b1:=(z8 (z6 Tryz.f78) 0)) (by kernel_rfl) (by kernel_rfl) (zS mixed (zp.none (by kernel_rfl)) _)) ?_;apply @z7 _ ([IL true]=[IL true])
 ·kernel_rfl
 rfl
theorem c78_1:IK Tryz.prog G 78 [.sl [.sl []],.sl [.sl []],.fn 79] (· = [.bool true]):=by
 refine zu (LX [(4,zK Tryz.prog G (LX []) (z8 (z6 Tryz.f78) 0) 2)]) Tryz.func78 ⟨_,rfl⟩ (zp.oneX (b1:=(z8 (z6 Tryz.f78) 0)) (by kernel_rfl) (by kernel_rfl) (zS mixed (zp.none (by kernel_rfl)) _)) ?_;apply @z7 _ (c77_1q1/\c77_1q1/\IK Tryz.prog G 79 [II [],.sl []] λ(rs:IU D)=>∃(b:Bool),rs=[IL b]/\bif !b then [IL false]=[IL true]else [IL true]=[IL true])
 ·kernel_rfl
 delta c77_1q1 c71_hq1 oP iF lC;exact⟨⟨by decide,rfl⟩,⟨by decide,rfl⟩,c79.use ⟨_,rfl,rfl⟩⟩
theorem c41_0:IK Tryz.prog G 41 [.sl [],.sl [.sl []]] (· = [.bool true]):=by
 refine zu (LX []) Tryz.func41 ⟨_,rfl⟩ (zp.none (by kernel_rfl)) ?_;apply @z7 _ (IK Tryz.prog G 77 [II []] λ(rs:IU D)=>∃(l:IU D)(n:Int),rs=[II l,.int .i64 n]/\IK Tryz.prog G 78 [II l,.sl [II []],.fn 79] λ(rs:IU D)=>∃(b:Bool),rs=[IL b]/\[IL (bif n != 0 then true else b)]=[IL true])
 ·kernel_rfl
 exact c77_0.use ⟨_,_,rfl,c78_1.use ⟨_,rfl,rfl⟩⟩
theorem c41_1:IK Tryz.prog G 41 [.sl [.sl []],.sl []] (· = [.bool true]):=by
 refine zu (LX []) Tryz.func41 ⟨_,rfl⟩ (zp.none (by kernel_rfl)) ?_;apply @z7 _ (IK Tryz.prog G 77 [II [II []]] λ(rs:IU D)=>∃(l:IU D)(n:Int),rs=[II l,.int .i64 n]/\IK Tryz.prog G 78 [II l,.sl [],.fn 79] λ(rs:IU D)=>∃(b:Bool),rs=[IL b]/\[IL (bif n != 0 then true else b)]=[IL true])
 ·kernel_rfl
 exact c77_1.use ⟨_,_,rfl,c78_0.use ⟨_,rfl,rfl⟩⟩
end
section
variable {G:Nat->IQ (IU D)}{rd:IQ Nat}{n:Nat}{P:HP}
theorem zI {L:Loops}{code:He}(h:(loopsOf code).all (λb=>(L (loopId b)).isNone)=true:=by kernel_rfl):zp P G rd n L (loopsOf code):=zp.none h
theorem vR {code:He}{i1:Nat}{W1:LW}(h1:yD P G rd n (z8 code 0) W1) (h:loopsOf code=[z8 code 0]:=by kernel_rfl) (e1:LX [(i1,W1)] (loopId (z8 code 0))=some W1:=by kernel_rfl):zp P G rd n (LX [(i1,W1)]) (loopsOf code):=zp.oneX h e1 h1
theorem XA {code:He}{i1 i2:Nat}{W1 W2:LW}(h1:yD P G rd n (z8 code 0) W1) (h2:yD P G rd n (z8 code 1) W2) (h:loopsOf code=[z8 code 0,z8 code 1]:=by kernel_rfl) (e1:LX [(i1,W1),(i2,W2)] (loopId (z8 code 0))=some W1:=by kernel_rfl) (e2:LX [(i1,W1),(i2,W2)] (loopId (z8 code 1))=some W2:=by kernel_rfl):zp P G rd n (LX [(i1,W1),(i2,W2)]) (loopsOf code):=zp.twoX h e1 e2 h1 h2
theorem xM {L:Loops}{body:He}{k:Nat}(hL:zp Tryz.prog G rd n L (loopsOf body)):yD Tryz.prog G rd n body (zK Tryz.prog G L body k):=zS mixed hL k
end
def hY (s:Sc) (r:Ru) (fz:IU Int) (cs fs rows:IU D):IU Box:=[If s r fz,.cells 57 [.d (.int .i64 1),.d (.sl cs),.d (.sl fs)],.cells 95 [.d (.sl [.bool false,.bool false]),.d (.sl rows),.d (.int .i64 2)]]
def Kj (rows:IU D) (k:Int):IU Box:=[.cells 95 [.d (.sl [.bool false,.bool false]),.d (.sl rows),.d (.int .i64 2)],.cells 3 [.d (.int .i64 k)]]
def ZH (rows:IU D):D:= .agg [.sl [.bool false,.bool false],.sl rows,.int .i64 2]
section
variable {G:Nat->IQ (IU D)}
theorem c33:IK Tryz.prog G 33 [.sl []] (· = [.bool true]):=by
 refine zu (LX [(2,zK Tryz.prog G (LX []) (z8 (z6 Tryz.f33) 0) 1)]) Tryz.func33 ⟨_,rfl⟩ (vR (xM zI)) ?_;apply @z7 _ ([IL true]=[IL true])
 ·kernel_rfl
 rfl
theorem c34:IK Tryz.prog G 34 [.sl []] (· = [.sl []]):=by
 refine zu (LX []) Tryz.func34 ⟨_,rfl⟩ zI ?_;apply @z7 _ ([II []]=[II []])
 ·kernel_rfl
 rfl
theorem c35:IK Tryz.prog G 35 [.sl []] (· = [.sl []]):=by
 refine zu (LX []) Tryz.func35 ⟨_,rfl⟩ zI ?_;apply @z7 _ (∀(b:Bool),(b=true->([]:IU D)=[])->bif b then [II []]=[II []]else FA [] [] (nat_lit 1) (nat_lit 8)/\[II []]=[II []])
 ·kernel_rfl
 intro b _;cases b
 ·exact⟨⟨rfl,by decide⟩,rfl⟩
 ·rfl
def yq (a:Sc) (b:Ru) (c:IU Int) (d:IU D) (e:IU D) (f:IU D):IU Box:=[Hl 32 [.d (.sl (IT H9 (Hk a))),.d (.sl (IT H8 (Hg a))),.d (.sl (IT Hy (Hi a))),.d (.sl (IT Hx (Hh a))),.d (.sl (IT H7 (Hn a))),.d (.sl [Hd [.str (FX b),.bool (FW b),.int .i64 (FZ b),.sl (IT ID (GT b)),.int .i64 (Hj (G7 b)),.str (HE (G7 b)),.int .i64 (HB (G7 b)),.sl (IT Hq (HM (G7 b))),.sl (IT ID (HN (G7 b))),.sl (IT HV (Hz (G7 b)))]]),.d (.sl (IT intD c))],.cells 57 [.d (.int .i64 1),.d (.sl d),.d (.sl e)],.cells 95 [.d (.sl [IL false,.bool false]),.d (.sl f),.d (.int .i64 2)]]
theorem K0 (s:Sc) (r:Ru) (fz:IU Int) (cs fs rows:IU D):HY Tryz.prog G 71 [.d (.sl []),.clo 31 [] [.ptr 2 0]] (hY s r fz cs fs rows) (λrs H'=>rs=[.int .i64 (-1)]/\H'=hY s r fz cs fs rows):=by
 refine zZ (LX [(2,zK Tryz.prog G (LX []) (z8 (z6 Tryz.f71) 0) 1)]) Tryz.func71 rfl ⟨_,_,rfl,rfl⟩ (vR (xM zI)) ?_;apply @z7 _ ([IP .i64 (-1)]=[IP .i64 (-1)]/\yq s r fz cs fs rows=yq s r fz cs fs rows)
 ·kernel_rfl
 delta yq;exact⟨rfl,rfl⟩
def c32_oq1 (a:IU D) (b:IU D) (c:IU D) (d:IU D) (e:IU D) (f:IU D) (g:IU D):Box:=Hl 32 [.d (.sl a),.d (.sl b),.d (.sl c),.d (.sl d),.d (.sl e),.d (.sl f),.d (.sl g)]
def zN (a:Int) (b:IU D) (c:IU D) (d:IU D) (e:IU D) (f:Int):IU Box:=[Hl 57 [.d (.int .i64 a),.d (.sl b),.d (.sl c)],.cells 95 [.d (.sl d),.d (.sl e),.d (.int .i64 f)]]
theorem K3 (s:Sc) (r:Ru) (fz:IU Int) (cs fs rows:IU D):HY Tryz.prog G 32 [.d (.sl []),.clo 31 [] [.ptr 2 0]] (hY s r fz cs fs rows) (λrs H'=>rs=[.bool false]/\H'=hY s r fz cs fs rows):=by
 refine zZ (LX []) Tryz.func32 rfl ⟨_,_,rfl,rfl⟩ zI ?_;apply @z7 _ (HY Tryz.prog G 71 [IH (.sl []),.clo 31 [] [IA 2 0]] (yq s r fz cs fs rows) λ(rs:IU D) (H':IU Box)=>∃(n:Int),rs=[IP .i64 n]/\∃(l:IU D)(l_1:IU D)(l_2:IU D)(l_3:IU D)(l_4:IU D)(l_5:IU D)(l_6:IU D)(n_1:Int)(l_7:IU D)(l_8:IU D)(l_9:IU D)(l_10:IU D)(n_2:Int),H'=c32_oq1 l l_1 l_2 l_3 l_4 l_5 l_6::zN n_1 l_7 l_8 l_9 l_10 n_2/\[IL (decide (n>=0))]=[IL false]/\c32_oq1 l l_1 l_2 l_3 l_4 l_5 l_6::zN n_1 l_7 l_8 l_9 l_10 n_2=yq s r fz cs fs rows)
 ·kernel_rfl
 delta yq c32_oq1 zN;refine(K0 s r fz cs fs rows).mono ?_;rintro rs H' ⟨rfl,rfl⟩;exact⟨_,rfl,_,_,_,_,_,_,_,_,_,_,_,_,_,rfl,rfl,rfl⟩
def sn (a:IU D):IU Box:=[Hl 95 [.d (.sl [IL false,.bool false]),.d (.sl a),.d (.int .i64 2)],.cells 3 [.d (.int .i64 0)]]
theorem K4 (rows:IU D):HY Tryz.prog G 71 [.d (.sl []),.clo 74 [] [.ptr 0 0,.ptr 1 0]] (Kj rows 0) (λrs H'=>rs=[.int .i64 (-1)]/\H'=Kj rows 0):=by
 refine zZ (LX [(2,zK Tryz.prog G (LX []) (z8 (z6 Tryz.f71) 0) 1)]) Tryz.func71 rfl ⟨_,_,rfl,rfl⟩ (vR (xM zI)) ?_;apply @z7 _ ([IP .i64 (-1)]=[IP .i64 (-1)]/\sn rows=sn rows)
 ·kernel_rfl
 delta sn;exact⟨rfl,rfl⟩
def lB (a:IU D) (b:IU D) (c:Int) (d:Int):IU Box:=[Hl 95 [.d (.sl a),.d (.sl b),.d (.int .i64 c)],.cells 3 [.d (.int .i64 d)]]
theorem K5 (rows:IU D):HY Tryz.prog G 32 [.d (.sl []),.clo 74 [] [.ptr 0 0,.ptr 1 0]] (Kj rows 0) (λrs H'=>rs=[.bool false]/\H'=Kj rows 0):=by
 refine zZ (LX []) Tryz.func32 rfl ⟨_,_,rfl,rfl⟩ zI ?_;apply @z7 _ (HY Tryz.prog G 71 [IH (.sl []),.clo 74 [] [IA 0 0,.ptr 1 0]] (sn rows) λ(rs:IU D) (H':IU Box)=>∃(n:Int),rs=[IP .i64 n]/\∃(l:IU D)(l_1:IU D)(n_1:Int)(n_2:Int),H'=lB l l_1 n_1 n_2/\[IL (decide (n>=0))]=[IL false]/\lB l l_1 n_1 n_2=sn rows)
 ·kernel_rfl
 delta sn lB;refine(K4 rows).mono ?_;rintro rs H' ⟨rfl,rfl⟩;exact⟨_,rfl,_,_,_,_,rfl,rfl,rfl⟩
theorem c30 (s:Sc) (r:Ru) (fz:IU Int) (cs fs rows:IU D):HY Tryz.prog G 30 [.d (.sl []),.ptr 2 0] (hY s r fz cs fs rows) (λrs H'=>rs=[.bool false]/\H'=hY s r fz cs fs rows):=by
 refine zZ (LX []) Tryz.func30 rfl ⟨_,_,rfl,rfl⟩ zI ?_;apply @z7 _ (HY Tryz.prog G 32 [IH (.sl []),.clo 31 [] [IA 2 0]] (yq s r fz cs fs rows) λ(rs:IU D) (H':IU Box)=>∃(b:Bool),rs=[IL b]/\∃(l:IU D)(l_1:IU D)(l_2:IU D)(l_3:IU D)(l_4:IU D)(l_5:IU D)(l_6:IU D)(n:Int)(l_7:IU D)(l_8:IU D)(l_9:IU D)(l_10:IU D)(n_1:Int),H'=c32_oq1 l l_1 l_2 l_3 l_4 l_5 l_6::zN n l_7 l_8 l_9 l_10 n_1/\IK Tryz.prog G 33 [II []] λ(rs:IU D)=>∃(b_1:Bool),rs=[IL b_1]/\IK Tryz.prog G 35 [II []] λ(rs:IU D)=>∃(l_11:IU D),rs=[II l_11]/\IK Tryz.prog G 34 [II l_11] λ(rs:IU D)=>∃(l_12:IU D),rs=[II l_12]/\[IL (bif bif b then true else !b_1 then true else(↑(IR l_12):Int) != (↑(IR ([]:IU D)):Int))]=[IL false]/\c32_oq1 l l_1 l_2 l_3 l_4 l_5 l_6::zN n l_7 l_8 l_9 l_10 n_1=yq s r fz cs fs rows)
 ·kernel_rfl
 delta yq c32_oq1 zN;refine(K3 s r fz cs fs rows).mono ?_;rintro rs H' ⟨rfl,rfl⟩;exact⟨_,rfl,_,_,_,_,_,_,_,_,_,_,_,_,_,rfl,c33.use ⟨_,rfl,c35.use ⟨_,rfl,c34.use ⟨_,rfl,rfl,rfl⟩⟩⟩⟩
theorem K6 (s:Sc) (r:Ru) (fz:IU Int) (cs fs rows:IU D):HY Tryz.prog G 73 [.d (.sl []),.clo 30 [] [.ptr 2 0]] (hY s r fz cs fs rows) (λrs H'=>rs=[.int .i64 (-1)]/\H'=hY s r fz cs fs rows):=by
 refine zZ (LX [(2,zK Tryz.prog G (LX []) (z8 (z6 Tryz.f73) 0) 1)]) Tryz.func73 rfl ⟨_,_,rfl,rfl⟩ (vR (xM zI)) ?_;apply @z7 _ ([IP .i64 (-1)]=[IP .i64 (-1)]/\yq s r fz cs fs rows=yq s r fz cs fs rows)
 ·kernel_rfl
 delta yq;exact⟨rfl,rfl⟩
theorem K7 (s:Sc) (r:Ru) (fz:IU Int) (cs fs rows:IU D):HY Tryz.prog G 73 [.d (.sl [.sl []]),.clo 30 [] [.ptr 2 0]] (hY s r fz cs fs rows) (λrs H'=>rs=[.int .i64 (-1)]/\H'=hY s r fz cs fs rows):=by
 refine zZ (LX [(2,zK Tryz.prog G (LX []) (z8 (z6 Tryz.f73) 0) 2)]) Tryz.func73 rfl ⟨_,_,rfl,rfl⟩ (vR (xM zI)) ?_;apply @z7 _ (((0:Int)<=0/\some (II [])=some (II []))/\HY Tryz.prog G 30 [IH (.sl []),.ptr 2 0] (yq s r fz cs fs rows) λ(rs:IU D) (H':IU Box)=>∃(b:Bool),rs=[IL b]/\∃(l:IU D)(l_1:IU D)(l_2:IU D)(l_3:IU D)(l_4:IU D)(l_5:IU D)(l_6:IU D)(n:Int)(l_7:IU D)(l_8:IU D)(l_9:IU D)(l_10:IU D)(n_1:Int),H'=c32_oq1 l l_1 l_2 l_3 l_4 l_5 l_6::zN n l_7 l_8 l_9 l_10 n_1/\bif b then [IP .i64 0]=[IP .i64 (-1)]/\c32_oq1 l l_1 l_2 l_3 l_4 l_5 l_6::zN n l_7 l_8 l_9 l_10 n_1=yq s r fz cs fs rows else [IP .i64 (-1)]=[IP .i64 (-1)]/\c32_oq1 l l_1 l_2 l_3 l_4 l_5 l_6::zN n l_7 l_8 l_9 l_10 n_1=yq s r fz cs fs rows)
 ·kernel_rfl
 delta yq c32_oq1 zN;refine⟨⟨by decide,rfl⟩,?_⟩;refine(c30 s r fz cs fs rows).mono ?_;rintro rs H' ⟨rfl,rfl⟩;exact⟨_,rfl,_,_,_,_,_,_,_,_,_,_,_,_,_,rfl,rfl,rfl⟩
theorem M4 (s:Sc) (r:Ru) (fz:IU Int) (cs fs rows:IU D):HY Tryz.prog G 36 [.d (.sl []),.clo 30 [] [.ptr 2 0]] (hY s r fz cs fs rows) (λrs H'=>rs=[.bool false]/\H'=hY s r fz cs fs rows):=by
 refine zZ (LX []) Tryz.func36 rfl ⟨_,_,rfl,rfl⟩ zI ?_;apply @z7 _ (HY Tryz.prog G 73 [IH (.sl []),.clo 30 [] [IA 2 0]] (yq s r fz cs fs rows) λ(rs:IU D) (H':IU Box)=>∃(n:Int),rs=[IP .i64 n]/\∃(l:IU D)(l_1:IU D)(l_2:IU D)(l_3:IU D)(l_4:IU D)(l_5:IU D)(l_6:IU D)(n_1:Int)(l_7:IU D)(l_8:IU D)(l_9:IU D)(l_10:IU D)(n_2:Int),H'=c32_oq1 l l_1 l_2 l_3 l_4 l_5 l_6::zN n_1 l_7 l_8 l_9 l_10 n_2/\[IL (decide (n>=0))]=[IL false]/\c32_oq1 l l_1 l_2 l_3 l_4 l_5 l_6::zN n_1 l_7 l_8 l_9 l_10 n_2=yq s r fz cs fs rows)
 ·kernel_rfl
 delta yq c32_oq1 zN;refine(K6 s r fz cs fs rows).mono ?_;rintro rs H' ⟨rfl,rfl⟩;exact⟨_,rfl,_,_,_,_,_,_,_,_,_,_,_,_,_,rfl,rfl,rfl⟩
theorem M5 (s:Sc) (r:Ru) (fz:IU Int) (cs fs rows:IU D):HY Tryz.prog G 36 [.d (.sl [.sl []]),.clo 30 [] [.ptr 2 0]] (hY s r fz cs fs rows) (λrs H'=>rs=[.bool false]/\H'=hY s r fz cs fs rows):=by
 refine zZ (LX []) Tryz.func36 rfl ⟨_,_,rfl,rfl⟩ zI ?_;apply @z7 _ (HY Tryz.prog G 73 [IH (.sl [II []]),.clo 30 [] [IA 2 0]] (yq s r fz cs fs rows) λ(rs:IU D) (H':IU Box)=>∃(n:Int),rs=[IP .i64 n]/\∃(l:IU D)(l_1:IU D)(l_2:IU D)(l_3:IU D)(l_4:IU D)(l_5:IU D)(l_6:IU D)(n_1:Int)(l_7:IU D)(l_8:IU D)(l_9:IU D)(l_10:IU D)(n_2:Int),H'=c32_oq1 l l_1 l_2 l_3 l_4 l_5 l_6::zN n_1 l_7 l_8 l_9 l_10 n_2/\[IL (decide (n>=0))]=[IL false]/\c32_oq1 l l_1 l_2 l_3 l_4 l_5 l_6::zN n_1 l_7 l_8 l_9 l_10 n_2=yq s r fz cs fs rows)
 ·kernel_rfl
 delta yq c32_oq1 zN;refine(K7 s r fz cs fs rows).mono ?_;rintro rs H' ⟨rfl,rfl⟩;exact⟨_,rfl,_,_,_,_,_,_,_,_,_,_,_,_,_,rfl,rfl,rfl⟩
theorem I8 (rows:IU D):IK Tryz.prog G 37 [ZH rows,.sl []] (· = [.bool true]):=by
 unfold ZH;refine zu (LX [(2,zK Tryz.prog G (LX []) (z8 (z6 Tryz.f37) 0) 1)]) Tryz.func37 ⟨_,rfl⟩ (vR (xM zI)) ?_;apply @z7 _ (HY Tryz.prog G 32 [IH (.sl []),.clo 74 [] [IA 0 0,.ptr 1 0]] (sn rows) λ(rs:IU D) (H':IU Box)=>∃(b:Bool),rs=[IL b]/\∃(l:IU D)(l_1:IU D)(n:Int)(n_1:Int),H'=lB l l_1 n n_1/\bif !b then [IL true]=[IL true]else HD)
 ·kernel_rfl
 delta sn lB;refine(K5 rows).mono ?_;rintro rs H' ⟨rfl,rfl⟩;exact⟨_,rfl,_,_,_,_,rfl,rfl⟩
theorem Ic (rows:IU D):IK Tryz.prog G 40 [ZH rows,.sl []] (· = [.sl []]):=by
 unfold ZH;refine zu (LX [(3,zK Tryz.prog G (LX []) (z8 (z6 Tryz.f40) 0) 3)]) Tryz.func40 ⟨_,rfl⟩ (vR (xM zI)) ?_;apply @z7 _ (((0:Int)<=0/\some (IL false)=some (IL false))/\IK Tryz.prog G 76 [II [],.int .i64 0] λ(rs:IU D)=>∃(b:Bool),rs=[IL b]/\(0<=Hr .i64 ((0:Int)+1)/\some (IL false)=some (IL false))/\IK Tryz.prog G 76 [II [],.int .i64 (Hr .i64 ((0:Int)+1))] λ(rs:IU D)=>∃(b:Bool),rs=[IL b]/\[II []]=[II []])
 ·kernel_rfl
 exact⟨⟨by decide,rfl⟩,(N6 (G:=G) [] 0 (by simp)).use ⟨_,rfl,⟨by decide,rfl⟩,(N6 (G:=G) [] (Hr .i64 (0+1)) (by simp)).use ⟨_,rfl,rfl⟩⟩⟩
def OD (a:IU D):D:=Hd [.sl [IL false,.bool false],.sl a,.int .i64 2]
theorem Ib (s:Sc) (r:Ru) (fz:IU Int) (cs fs rows:IU D):HY Tryz.prog G 39 [.d (.sl []),.ptr 2 0] (hY s r fz cs fs rows) (λrs H'=>rs=[.bool false]/\H'=hY s r fz cs fs rows):=by
 refine zZ (LX []) Tryz.func39 rfl ⟨_,_,rfl,rfl⟩ zI ?_;apply @z7 _ (IK Tryz.prog G 40 [OD rows,.sl []] λ(rs:IU D)=>∃(l:IU D),rs=[II l]/\IK Tryz.prog G 37 [OD rows,.sl l] λ(rs:IU D)=>∃(b:Bool),rs=[IL b]/\[IL !b]=[IL false]/\yq s r fz cs fs rows=yq s r fz cs fs rows)
 ·kernel_rfl
 delta OD yq;exact(Ic rows).use ⟨_,rfl,(I8 rows).use ⟨_,rfl,rfl,rfl⟩⟩
theorem K8 (rows:IU D):HY Tryz.prog G 38 [.d (.sl []),.clo 37 [.agg [.d (.sl [.bool false,.bool false]),.d (.sl rows),.d (.int .i64 2)]] []] ([]) (λrs H'=>rs=[.bool true]/\H'=[]):=by
 refine zZ (LX [(2,zK Tryz.prog G (LX []) (z8 (z6 Tryz.f38) 0) 1)]) Tryz.func38 rfl ⟨_,_,rfl,rfl⟩ (vR (xM zI)) ?_;apply @z7 _ ([IL true]=[IL true]/\([]:IU Box)=[])
 ·kernel_rfl
 exact⟨rfl,rfl⟩
theorem K9 (s:Sc) (r:Ru) (fz:IU Int) (cs fs rows:IU D):HY Tryz.prog G 38 [.d (.sl []),.clo 39 [] [.ptr 2 0]] (hY s r fz cs fs rows) (λrs H'=>rs=[.bool true]/\H'=hY s r fz cs fs rows):=by
 refine zZ (LX [(2,zK Tryz.prog G (LX []) (z8 (z6 Tryz.f38) 0) 1)]) Tryz.func38 rfl ⟨_,_,rfl,rfl⟩ (vR (xM zI)) ?_;apply @z7 _ ([IL true]=[IL true]/\yq s r fz cs fs rows=yq s r fz cs fs rows)
 ·kernel_rfl
 delta yq;exact⟨rfl,rfl⟩
def yz (a:Sc) (b:Ru) (c:IU Int):Sc:=HU (Cl a [b] c)
def tp (a:Sc) (b:Ru) (c:IU Int):IU D:=IT H7 (Hn (yz a b c))
def w8 (a:Sc) (b:Ru) (c:IU Int):Int:=(↑(IR (tp a b c)):Int)
def uZ (a:Ru):D:=II [Hd [.str (FX a),.bool (FW a),.int .i64 (FZ a),.sl (IT ID (GT a)),.int .i64 (Hj (G7 a)),.str (HE (G7 a)),.int .i64 (HB (G7 a)),.sl (IT Hq (HM (G7 a))),.sl (IT ID (HN (G7 a))),.sl (IT HV (Hz (G7 a)))]]
def c16_fq18:Prop:=[IL false]=[IL true]
def uY (a:IU D) (b:IU D) (c:Int):D:=Hd [.sl a,.sl b,.int .i64 c]
def y7 (a:Bool):IU D:=[IL a]
def c16_fq17:IU AV:=[IA 2 0]
def lA (a:IU D) (b:IU D) (c:Int):IU AV:=[IH (.sl a),.d (.sl b),.d (.int .i64 c)]
def sm (a:IU D):Bool:=decide ((0:Int)<(↑(IR a):Int))
def xL (a:IU D):D:=II (Gl (IB (z1 a (IJ 0) 0) default))
def uX (a:IU D):Prop:=(0:Int)<=0/\a[IJ 0]? = some (xL a)
def oO (a:IU D) (b:IU D) (c:Int):IU AV:=[Gg 37 [AV.agg (lA a b c)] []]
def c16_fq19:Int:=Hr .i64 ((0:Int)+1)
def oN (a:IU D):Bool:=decide (c16_fq19<(↑(IR a):Int))
def vQ (a:IU D):D:=II (Gl (IB (z1 a (IJ c16_fq19) 0) default))
def oM (a:IU D):Prop:=0<=c16_fq19/\a[IJ c16_fq19]? = some (vQ a)
def oL (a:Nat->IQ (IU D)) (b:IU D) (c:IU D) (d:Int):Prop:=IK Tryz.prog a 41 [II b,.sl c] λ(rs:IU D)=>∃(b_1:Bool),rs=y7 b_1/\IK Tryz.prog a 41 [II c,.sl b] λ(rs:IU D)=>∃(b:Bool),rs=y7 b/\[IL (bif d==3 then true else bif b_1 then b else false)]=[IL true]
def kz (a:IU D) (b:IU Box) (c:Nat->IQ (IU D)) (d:IU D):Prop:= ∃(b_1:Bool),a=y7 b_1/\∃(l:IU D)(l_1:IU D)(l_2:IU D)(l_3:IU D)(l_4:IU D)(l_5:IU D)(l_6:IU D)(n:Int)(l_7:IU D)(l_8:IU D)(l_9:IU D)(l_10:IU D)(n_1:Int),b=c32_oq1 l l_1 l_2 l_3 l_4 l_5 l_6::zN n l_7 l_8 l_9 l_10 n_1/\HY Tryz.prog c 38 [IH (xL d),.clo 39 [] c16_fq17] (c32_oq1 l l_1 l_2 l_3 l_4 l_5 l_6::zN n l_7 l_8 l_9 l_10 n_1) λ(rs:IU D) (H':IU Box)=>H'=c32_oq1 l l_1 l_2 l_3 l_4 l_5 l_6::zN n l_7 l_8 l_9 l_10 n_1/\∃(b:Bool),rs=y7 b/\bif bif b_1 then true else !b then c16_fq18 else bif oN d then oM d/\HY Tryz.prog c 39 (IH (vQ d)::c16_fq17) (c32_oq1 l l_1 l_2 l_3 l_4 l_5 l_6::zN n l_7 l_8 l_9 l_10 n_1) λ(rs:IU D) (H':IU Box)=>∃(b:Bool),rs=y7 b/\∃(l:IU D)(l_11:IU D)(l_12:IU D)(l_13:IU D)(l_14:IU D)(l_15:IU D)(l_16:IU D)(n:Int)(l_17:IU D)(l_18:IU D)(l_19:IU D)(l_20:IU D)(n_2:Int),H'=c32_oq1 l l_11 l_12 l_13 l_14 l_15 l_16::zN n l_17 l_18 l_19 l_20 n_2/\HY Tryz.prog c 38 [IH (vQ d),.clo 39 [] c16_fq17] (c32_oq1 l l_11 l_12 l_13 l_14 l_15 l_16::zN n l_17 l_18 l_19 l_20 n_2) λ(rs:IU D) (H':IU Box)=>H'=c32_oq1 l l_11 l_12 l_13 l_14 l_15 l_16::zN n l_17 l_18 l_19 l_20 n_2/\∃(b_2:Bool),rs=y7 b_2/\bif bif b then true else !b_2 then c16_fq18 else HD else oL c l_7 l_8 n
theorem Kz (s:Sc) (r:Ru) (hL:s.lessons.length<=1000000000) (fz:IU Int) (rows:IU D) (h c:Int) (h18:IK Tryz.prog G 18 [s.d,xl (G8 s.lessons.length ⟨0,0⟩),.sl [r.d]] (· = [.int .i64 h,.int .i64 c,.int .i64 0])) (h29:IK Tryz.prog G 29 [(⟨s,[r],fz⟩:Pn).d] (· = [ZH rows,.bool true])):IK Tryz.prog G 16 [(⟨s,[r],fz⟩:Pn).d,.agg [.int .i64 1,.sl [],.sl [.sl []]]] (· = [.bool true]):=by
 unfold ZH at h29;unfold xl at h18;rw[yj]at *;rw[zj]at h18;refine zu (LX [(10,zK Tryz.prog G (LX []) (z8 (z6 Tryz.f16) 0) 2),(16,zK Tryz.prog G (LX []) (z8 (z6 Tryz.f16) 1) 2)]) Tryz.func16 ⟨_,rfl⟩ (XA (xM zI) (xM zI)) ?_;apply @z7 _ ((w8 s r fz=w8 s r fz/\0<=w8 s r fz/\w8 s r fz<=1000000000/\(↑16:Int)*w8 s r fz<=281474976710656)/\IK Tryz.prog G 18 [Hd [.sl (IT H9 (Hk (yz s r fz))),.sl (IT H8 (Hg (yz s r fz))),.sl (IT Hy (Hi (yz s r fz))),.sl (IT Hx (Hh (yz s r fz))),.sl (tp s r fz)],.agg [.sl (G8 (IJ (w8 s r fz)) (Hd (G6 [IP .i64 0,.int .i64 0])))],uZ r] λ(rs:IU D)=>∃(n:Int)(n_1:Int)(n_2:Int),rs=[IP .i64 n,.int .i64 n_1,.int .i64 n_2]/\bif bif n_2 != 0 then true else bif (1:Int) != 1 then(1:Int) != 3 else false then c16_fq18 else IK Tryz.prog G 29 [Hd [.sl (IT H9 (Hk (yz s r fz))),.sl (IT H8 (Hg (yz s r fz))),.sl (IT Hy (Hi (yz s r fz))),.sl (IT Hx (Hh (yz s r fz))),.sl (tp s r fz),uZ r,.sl (IT intD (GX (Cl s [r] fz)))]] λ(rs:IU D)=>∃(l:IU D)(l_1:IU D)(n:Int)(b:Bool),rs=uY l l_1 n::y7 b/\HY Tryz.prog G 36 [IH (.sl []),.clo 30 [] c16_fq17] [Hl 32 [.d (.sl (IT H9 (Hk (yz s r fz)))),.d (.sl (IT H8 (Hg (yz s r fz)))),.d (.sl (IT Hy (Hi (yz s r fz)))),.d (.sl (IT Hx (Hh (yz s r fz)))),.d (.sl (tp s r fz)),.d (uZ r),.d (.sl (IT intD (GX (Cl s [r] fz))))],.cells 57 [.d (.int .i64 1),.d (.sl []),.d (.sl [II []])],.cells 95 (lA l l_1 n)] λ(rs:IU D) (H':IU Box)=>∃(b_1:Bool),rs=y7 b_1/\∃(l:IU D)(l_2:IU D)(l_3:IU D)(l_4:IU D),∃ (l_5:IU D),∃(l_6:IU D)(l_7:IU D)(n:Int)(l_8:IU D)(l_9:IU D)(l_10:IU D)(l_11:IU D)(n_3:Int),H'=c32_oq1 l l_2 l_3 l_4 l_5 l_6 l_7::zN n l_8 l_9 l_10 l_11 n_3/\HY Tryz.prog G 36 [IH (.sl l_9),.clo 30 [] c16_fq17] (c32_oq1 l l_2 l_3 l_4 l_5 l_6 l_7::zN n l_8 l_9 l_10 l_11 n_3) λ(rs:IU D) (H':IU Box)=>H'=c32_oq1 l l_2 l_3 l_4 l_5 l_6 l_7::zN n l_8 l_9 l_10 l_11 n_3/\∃(b_2:Bool),rs=y7 b_2/\bif bif b_1 then true else b_2 then c16_fq18 else bif b then bif sm l_8 then uX l_8/\IK Tryz.prog G 37 [uY l_10 l_11 n_3,xL l_8] λ(rs:IU D)=>∃(b:Bool),rs=y7 b/\HY Tryz.prog G 38 (IH (xL l_8)::oO l_10 l_11 n_3) [] λ(rs:IU D) (H':IU Box)=>H'=[]/\∃(b_3:Bool),rs=y7 b_3/\bif bif b then true else !b_3 then c16_fq18 else bif oN l_8 then oM l_8/\IK Tryz.prog G 37 [uY l_10 l_11 n_3,vQ l_8] λ(rs:IU D)=>∃(b:Bool),rs=y7 b/\HY Tryz.prog G 38 (IH (vQ l_8)::oO l_10 l_11 n_3) [] λ(rs:IU D) (H':IU Box)=>H'=[]/\∃(b_4:Bool),rs=y7 b_4/\bif bif b then true else !b_4 then c16_fq18 else HD else bif sm l_9 then uX l_9/\HY Tryz.prog G 39 (IH (xL l_9)::c16_fq17) (c32_oq1 l l_2 l_3 l_4 l_5 l_6 l_7::zN n l_8 l_9 l_10 l_11 n_3) λ(rs:IU D) (H':IU Box)=>kz rs H' G l_9 else oL G l_8 l_9 n else bif sm l_9 then uX l_9/\HY Tryz.prog G 39 (IH (xL l_9)::c16_fq17) (c32_oq1 l l_2 l_3 l_4 l_5 l_6 l_7::zN n l_8 l_9 l_10 l_11 n_3) λ(rs:IU D) (H':IU Box)=>kz rs H' G l_9 else oL G l_8 l_9 n else oL G l_8 l_9 n)
 ·kernel_rfl
 delta w8 tp yz uZ c16_fq18 uY y7 c16_fq17 lA c32_oq1 yq zN sm uX xL oO oN c16_fq19 oM vQ kz oL;have hrep:G8 (((s.lessons.map H7).length:Nat):Int).toNat (Hd [IP .i64 0,IP .i64 0].reverse)=(G8 s.lessons.length (⟨0,0⟩:Pl)).map H6:=by rw[Cg,H4,HF];rfl
 refine⟨⟨rfl,by omega,by simp only[H4];omega,by simp only[H4];omega⟩,?_⟩;refine IK.mono (Q:=λrs=>rs=[.int .i64 h,.int .i64 c,.int .i64 0]) ?_ ?_
 ·rw[hrep];exact h18
 rintro _ rfl;refine⟨_,_,_,rfl,?_⟩;refine h29.use ⟨_,_,_,_,rfl,?_⟩;refine(M4 s r fz ([]) ([.sl []]) rows).mono ?_;rintro rs H' ⟨rfl,rfl⟩;refine⟨_,rfl,_,_,_,_,_,_,_,_,_,_,_,_,_,rfl,?_⟩;refine(M5 s r fz ([]) ([.sl []]) rows).mono ?_;rintro rs H' ⟨rfl,rfl⟩;refine⟨rfl,_,rfl,?_⟩;refine And.intro ⟨by decide,rfl⟩ ?_;refine(Ib s r fz [] [.sl []] rows).mono ?_;rintro rs H' ⟨rfl,rfl⟩;refine⟨_,rfl,_,_,_,_,_,_,_,_,_,_,_,_,_,rfl,(K9 s r fz [] [.sl []] rows).mono ?_⟩;rintro rs H' ⟨rfl,rfl⟩;refine⟨rfl,_,rfl,?_⟩;exact c41_0.use ⟨_,rfl,c41_1.use ⟨_,rfl,rfl⟩⟩
def c16_cq1:Prop:=[IL false]=[IL false]
def ky (a:Nat->IQ (IU D)) (b:IU D) (c:IU D) (d:Int):Prop:=IK Tryz.prog a 41 [II b,.sl c] λ(rs:IU D)=>∃(b_1:Bool),rs=y7 b_1/\IK Tryz.prog a 41 [II c,.sl b] λ(rs:IU D)=>∃(b:Bool),rs=y7 b/\[IL (bif d==3 then true else bif b_1 then b else false)]=[IL false]
def ZG (a:IU D) (b:IU Box) (c:Nat->IQ (IU D)) (d:IU D):Prop:= ∃(b_1:Bool),a=y7 b_1/\∃(l:IU D)(l_1:IU D)(l_2:IU D)(l_3:IU D)(l_4:IU D)(l_5:IU D)(l_6:IU D)(n:Int)(l_7:IU D)(l_8:IU D)(l_9:IU D)(l_10:IU D)(n_1:Int),b=c32_oq1 l l_1 l_2 l_3 l_4 l_5 l_6::zN n l_7 l_8 l_9 l_10 n_1/\HY Tryz.prog c 38 [IH (xL d),.clo 39 [] c16_fq17] (c32_oq1 l l_1 l_2 l_3 l_4 l_5 l_6::zN n l_7 l_8 l_9 l_10 n_1) λ(rs:IU D) (H':IU Box)=>H'=c32_oq1 l l_1 l_2 l_3 l_4 l_5 l_6::zN n l_7 l_8 l_9 l_10 n_1/\∃(b:Bool),rs=y7 b/\bif bif b_1 then true else !b then c16_cq1 else bif oN d then oM d/\HY Tryz.prog c 39 (IH (vQ d)::c16_fq17) (c32_oq1 l l_1 l_2 l_3 l_4 l_5 l_6::zN n l_7 l_8 l_9 l_10 n_1) λ(rs:IU D) (H':IU Box)=>∃(b:Bool),rs=y7 b/\∃(l:IU D)(l_11:IU D)(l_12:IU D)(l_13:IU D)(l_14:IU D)(l_15:IU D)(l_16:IU D)(n:Int)(l_17:IU D)(l_18:IU D)(l_19:IU D)(l_20:IU D)(n_2:Int),H'=c32_oq1 l l_11 l_12 l_13 l_14 l_15 l_16::zN n l_17 l_18 l_19 l_20 n_2/\HY Tryz.prog c 38 [IH (vQ d),.clo 39 [] c16_fq17] (c32_oq1 l l_11 l_12 l_13 l_14 l_15 l_16::zN n l_17 l_18 l_19 l_20 n_2) λ(rs:IU D) (H':IU Box)=>H'=c32_oq1 l l_11 l_12 l_13 l_14 l_15 l_16::zN n l_17 l_18 l_19 l_20 n_2/\∃(b_2:Bool),rs=y7 b_2/\bif bif b then true else !b_2 then c16_cq1 else HD else ky c l_7 l_8 n
theorem Ky (s:Sc) (r:Ru) (hL:s.lessons.length<=1000000000) (fz:IU Int) (rows:IU D) (h c:Int) (h18:IK Tryz.prog G 18 [s.d,xl (G8 s.lessons.length ⟨0,0⟩),.sl [r.d]] (· = [.int .i64 h,.int .i64 c,.int .i64 0])) (h29:IK Tryz.prog G 29 [(⟨s,[r],fz⟩:Pn).d] (· = [ZH rows,.bool true])):IK Tryz.prog G 16 [(⟨s,[r],fz⟩:Pn).d,.agg [.int .i64 1,.sl [.sl []],.sl []]] (· = [.bool false]):=by
 unfold ZH at h29;unfold xl at h18;rw[yj]at *;rw[zj]at h18;refine zu (LX [(10,zK Tryz.prog G (LX []) (z8 (z6 Tryz.f16) 0) 2),(16,zK Tryz.prog G (LX []) (z8 (z6 Tryz.f16) 1) 2)]) Tryz.func16 ⟨_,rfl⟩ (XA (xM zI) (xM zI)) ?_;apply @z7 _ ((w8 s r fz=w8 s r fz/\0<=w8 s r fz/\w8 s r fz<=1000000000/\(↑16:Int)*w8 s r fz<=281474976710656)/\IK Tryz.prog G 18 [Hd [.sl (IT H9 (Hk (yz s r fz))),.sl (IT H8 (Hg (yz s r fz))),.sl (IT Hy (Hi (yz s r fz))),.sl (IT Hx (Hh (yz s r fz))),.sl (tp s r fz)],.agg [.sl (G8 (IJ (w8 s r fz)) (Hd (G6 [IP .i64 0,.int .i64 0])))],uZ r] λ(rs:IU D)=>∃(n:Int)(n_1:Int)(n_2:Int),rs=[IP .i64 n,.int .i64 n_1,.int .i64 n_2]/\bif bif n_2 != 0 then true else bif (1:Int) != 1 then(1:Int) != 3 else false then c16_cq1 else IK Tryz.prog G 29 [Hd [.sl (IT H9 (Hk (yz s r fz))),.sl (IT H8 (Hg (yz s r fz))),.sl (IT Hy (Hi (yz s r fz))),.sl (IT Hx (Hh (yz s r fz))),.sl (tp s r fz),uZ r,.sl (IT intD (GX (Cl s [r] fz)))]] λ(rs:IU D)=>∃(l:IU D)(l_1:IU D)(n:Int)(b:Bool),rs=uY l l_1 n::y7 b/\HY Tryz.prog G 36 [IH (.sl [II []]),.clo 30 [] c16_fq17] [Hl 32 [.d (.sl (IT H9 (Hk (yz s r fz)))),.d (.sl (IT H8 (Hg (yz s r fz)))),.d (.sl (IT Hy (Hi (yz s r fz)))),.d (.sl (IT Hx (Hh (yz s r fz)))),.d (.sl (tp s r fz)),.d (uZ r),.d (.sl (IT intD (GX (Cl s [r] fz))))],.cells 57 [.d (.int .i64 1),.d (.sl [II []]),.d (.sl [])],.cells 95 (lA l l_1 n)] λ(rs:IU D) (H':IU Box)=>∃(b_1:Bool),rs=y7 b_1/\∃(l:IU D)(l_2:IU D)(l_3:IU D)(l_4:IU D)(l_5:IU D)(l_6:IU D)(l_7:IU D)(n:Int)(l_8:IU D)(l_9:IU D)(l_10:IU D)(l_11:IU D)(n_3:Int),H'=c32_oq1 l l_2 l_3 l_4 l_5 l_6 l_7::zN n l_8 l_9 l_10 l_11 n_3/\HY Tryz.prog G 36 [IH (.sl l_9),.clo 30 [] c16_fq17] (c32_oq1 l l_2 l_3 l_4 l_5 l_6 l_7::zN n l_8 l_9 l_10 l_11 n_3) λ(rs:IU D) (H':IU Box)=>H'=c32_oq1 l l_2 l_3 l_4 l_5 l_6 l_7::zN n l_8 l_9 l_10 l_11 n_3/\∃(b_2:Bool),rs=y7 b_2/\bif bif b_1 then true else b_2 then c16_cq1 else bif b then bif sm l_8 then uX l_8/\IK Tryz.prog G 37 [uY l_10 l_11 n_3,xL l_8] λ(rs:IU D)=>∃(b:Bool),rs=y7 b/\HY Tryz.prog G 38 (IH (xL l_8)::oO l_10 l_11 n_3) [] λ(rs:IU D) (H':IU Box)=>H'=[]/\∃(b_3:Bool),rs=y7 b_3/\bif bif b then true else !b_3 then c16_cq1 else bif oN l_8 then oM l_8/\IK Tryz.prog G 37 [uY l_10 l_11 n_3,vQ l_8] λ(rs:IU D)=>∃(b:Bool),rs=y7 b/\HY Tryz.prog G 38 (IH (vQ l_8)::oO l_10 l_11 n_3) [] λ(rs:IU D) (H':IU Box)=>H'=[]/\∃(b_4:Bool),rs=y7 b_4/\bif bif b then true else !b_4 then c16_cq1 else HD else bif sm l_9 then uX l_9/\HY Tryz.prog G 39 (IH (xL l_9)::c16_fq17) (c32_oq1 l l_2 l_3 l_4 l_5 l_6 l_7::zN n l_8 l_9 l_10 l_11 n_3) λ(rs:IU D) (H':IU Box)=>ZG rs H' G l_9 else ky G l_8 l_9 n else bif sm l_9 then uX l_9/\HY Tryz.prog G 39 (IH (xL l_9)::c16_fq17) (c32_oq1 l l_2 l_3 l_4 l_5 l_6 l_7::zN n l_8 l_9 l_10 l_11 n_3) λ(rs:IU D) (H':IU Box)=>ZG rs H' G l_9 else ky G l_8 l_9 n else ky G l_8 l_9 n)
 ·kernel_rfl
 delta w8 tp yz uZ c16_fq18 uY y7 c16_fq17 lA c32_oq1 yq zN sm uX xL oO oN c16_fq19 oM vQ kz oL c16_cq1 ZG ky;have hrep:G8 (((s.lessons.map H7).length:Nat):Int).toNat (Hd [IP .i64 0,IP .i64 0].reverse)=(G8 s.lessons.length (⟨0,0⟩:Pl)).map H6:=by rw[Cg,H4,HF];rfl
 refine⟨⟨rfl,by omega,by simp only[H4];omega,by simp only[H4];omega⟩,?_⟩;refine IK.mono (Q:=λrs=>rs=[.int .i64 h,.int .i64 c,.int .i64 0]) ?_ ?_
 ·rw[hrep];exact h18
 rintro _ rfl;refine⟨_,_,_,rfl,?_⟩;refine h29.use ⟨_,_,_,_,rfl,?_⟩;refine(M5 s r fz ([.sl []]) ([]) rows).mono ?_;rintro rs H' ⟨rfl,rfl⟩;refine⟨_,rfl,_,_,_,_,_,_,_,_,_,_,_,_,_,rfl,?_⟩;refine(M4 s r fz ([.sl []]) ([]) rows).mono ?_;rintro rs H' ⟨rfl,rfl⟩;refine⟨rfl,_,rfl,?_⟩;refine And.intro ⟨by decide,rfl⟩ ?_;refine(I8 rows).use ⟨_,rfl,(K8 rows).mono ?_⟩;rintro rs H' ⟨rfl,rfl⟩;exact⟨rfl,_,rfl,(rfl:[IL false]=[IL false])⟩
end
theorem exS_fits:exS.Fits:=by constructor<;>decide
theorem exP_fits:exP.Fits:=⟨exS_fits,by decide,by decide,by decide⟩
def rowsE:IU D:=[.sl [.bool true,.bool true],.sl [.bool true,.bool false]]
theorem ex_insts:ql exS exR=([[0,0],[0,1]],0):=by kernel_rfl
def vE (j k:Nat):Bool:=dz (dz (true,true) (true,false) j).1 (dz (true,true) (true,false) j).2 k
def Me (j:Nat):IU Ev:=Kk ⟨[108],1⟩ ⟨[115],2⟩ (dz (0,0) (0,1) j)
theorem ex_hold00:wU exS w1 (Me 0) exR.body=(vE 0 0,0):=by kernel_rfl
theorem ex_hold01:wU exS w2 (Me 0) exR.body=(vE 0 1,0):=by kernel_rfl
theorem ex_hold10:wU exS w1 (Me 1) exR.body=(vE 1 0,0):=by kernel_rfl
theorem ex_hold11:wU exS w2 (Me 1) exR.body=(vE 1 1,0):=by kernel_rfl
theorem Md (j k:Nat) (hj:j<2) (hk:k<2):Pre exS (dz w1 w2 k) (Me j) exR.body:=by
 have hj2:j=0∨j=1:=by omega
 have hk2:k=0∨k=1:=by omega
 rcases hj2 with rfl|rfl<;>rcases hk2 with rfl|rfl<;>exact⟨by kernel_rfl,by kernel_rfl,G0 (by kernel_rfl),by decide,rfl,G0 (by kernel_rfl)⟩
theorem OC (j k:Nat) (hj:j<2) (hk:k<2):wU exS (dz w1 w2 k) (Me j) exR.body=(vE j k,0):=by
 have hj2:j=0∨j=1:=by omega
 have hk2:k=0∨k=1:=by omega
 rcases hj2 with rfl|rfl<;>rcases hk2 with rfl|rfl
 ·exact ex_hold00
 ·exact ex_hold01
 ·exact ex_hold10
 ·exact ex_hold11
section
variable {M:Gf}
theorem Kx (hM:M.Ok) (hF:M.Fn) (m:Int):IK Tryz.prog (GA M m) 29 [exP.d] (· = [ZH rowsE,.bool true]):=by have h13:=Mj (Zh M m) exS 4096 exS_fits (by decide);rw[ex_all]at h13;have h69:=h69 hM m exS exR exS_fits (G0 (by kernel_rfl)) (by decide) (by decide) (G0 (by kernel_rfl));rw[ex_insts]at h69;refine JD (G:=GA M m) exS exR [0] w1 w2 ⟨[108],1⟩ ⟨[115],2⟩ (0,0) (0,1) (true,true) (true,false) rfl h13 h69 λj k hj hk=>?_;have h70:=h70 hM hF m exS (dz w1 w2 k) (Me j) exR.body exS_fits (by rcases (show k=0∨k=1 by omega)with rfl|rfl<;>decide) (by rcases (show j=0∨j=1 by omega)with rfl|rfl<;>exact G0 (by kernel_rfl)) (by rcases (show j=0∨j=1 by omega)with rfl|rfl<;>decide) (λ_=>Md j k hj hk);rw[OC j k hj hk]at h70;exact h70
theorem JC (hM:M.Ok) (hF:M.Fn) (m:Int):IK Tryz.prog (GA M m) 16 [exP.d,.agg [.int .i64 1,.sl [],.sl [.sl []]]] (· = [.bool true]):=by have h18:=h18 hM hF m exS w1 [exR] exS_fits (by decide) (by decide) (by decide);rw[ex_e1]at h18;exact Kz (G:=GA M m) exS exR (by decide) [0] rowsE _ _ h18 (Kx hM hF m)
theorem JB (hM:M.Ok) (hF:M.Fn) (m:Int):IK Tryz.prog (GA M m) 16 [exP.d,.agg [.int .i64 1,.sl [.sl []],.sl []]] (· = [.bool false]):=by have h18:=h18 hM hF m exS w1 [exR] exS_fits (by decide) (by decide) (by decide);rw[ex_e1]at h18;exact Ky (G:=GA M m) exS exR (by decide) [0] rowsE _ _ h18 (Kx hM hF m)
end
def RS (p:Pn):IU D:=[.sl (p.sc.slots.map H9),.sl (p.sc.rooms.map H8),.sl (p.sc.people.map Hy),.sl (p.sc.groups.map Hx),.sl (p.sc.lessons.map H7),.sl (p.rules.map Hm),.sl (p.frozen.map intD)]
def eH (k:Int) (p:Pn) (no:Int) (w:IU Pl) (cost:Int) (best:Bool):D:= .agg (.int .i64 k::(RS p++[.sl [],.int .i64 no,.sl (w.map H6),.int .i64 cost,.bool best,.int .i64 0,.int .i64 0,.int .i64 0,.sl [],.sl [],.int .i64 0,.sl [],.sl [],.int .i64 0,.int .i64 0]))
section
variable {M:Gf}
def c14q1:IU D:=[IP .i64 0]
def c14q6:IU D:=[II [],.sl []]
def c14q5:D:=HW (Gx (Gy (Gu #[(108:UInt8)])))
def c14q4:D:=HW (Gx (Gy (Gu #[(115:UInt8)])))
def c14q3:D:=HW (Gx (Gy (Gu #[])))
def c14q2:Rm:=Rm.mk [(114:UInt8)] 0 0 []
theorem c14 (m:Int):IK Tryz.prog (GA M m) 14 [] (· = [exP.d]):=by
 refine zu (LX []) Tryz.func14 ⟨_,rfl⟩ zI ?_;apply @z7 _ ([Hd [.sl [Hd (HW (Gx (Gy (Gu #[(97:UInt8)])))::IP .i64 0::c14q1),.agg [.str (Gx (Gy (Gu #[(98:UInt8)]))),.int .i64 0,.int .i64 1]],.sl [Hd [.str (Gx (Gy (Gu #[(114:UInt8)]))),.int .i64 0,.int .i64 0,.sl []]],.sl [],.sl [],.sl [Hd (HW (Gx (Gy (Gu #[(120:UInt8)])))::c14q6)],.sl [Hd [.str (Gx (Gy (Gu #[(101:UInt8),(97:UInt8),(114:UInt8),(108:UInt8),(121:UInt8)]))),.bool false,.int .i64 3,.sl [Hd [c14q5,.int .i64 1],.agg [c14q4,.int .i64 2]],.int .i64 13,c14q3,.int .i64 0,.sl [],.sl [],.sl [Hd (IP .i64 3::c14q3::IP .i64 0::II [Hd (IP .i64 2::c14q5::c14q1),.agg (IP .i64 2::c14q4::c14q1)]::c14q6),.agg (IP .i64 9 :: HW (Gx (Gy (Gu #[(61:UInt8)])))::IP .i64 0::II [Hd (IP .i64 4::c14q4::c14q1),.agg (IP .i64 1::c14q3::c14q1)]::c14q6)]]],.sl c14q1]]=[Hd [.sl [Hd [.str (Bq (Bl [(97:UInt8)] 0 0)),.int .i64 (Sl.day (Bl [(97:UInt8)] 0 0)),.int .i64 (Sl.hour (Bl [(97:UInt8)] 0 0))],.agg [.str (Bq (Bl [(98:UInt8)] 0 1)),.int .i64 (Sl.day (Bl [(98:UInt8)] 0 1)),.int .i64 (Sl.hour (Bl [(98:UInt8)] 0 1))]],.sl [Hd [.str (Rm.name c14q2),.int .i64 (Rm.house c14q2),.int .i64 (Rm.seats c14q2),.sl []]],.sl [],.sl [],.sl [Hd (HW (Le.name (Le.mk [(120:UInt8)] [] []))::c14q6)],.sl [Hd [.str (FX exR),.bool (FW exR),.int .i64 (FZ exR),.sl [Hd [.str (Bd.name (Bd.mk [(108:UInt8)] 1)),.int .i64 (Bd.sort (Bd.mk [(108:UInt8)] 1))],.agg [.str (Bd.name (Bd.mk [(115:UInt8)] 2)),.int .i64 (Bd.sort (Bd.mk [(115:UInt8)] 2))]],.int .i64 (Hj (G7 exR)),.str (HE (G7 exR)),.int .i64 (HB (G7 exR)),.sl [],.sl [],.sl [Hd (IP .i64 3::HW []::IP .i64 0::II [Hd [.int .i64 (Gh (Dw 2 [(108:UInt8)] 0)),.str (GK (Dw 2 [(108:UInt8)] 0)),.int .i64 (FO (Dw 2 [(108:UInt8)] 0))],.agg [.int .i64 (Gh (Dw 2 [(115:UInt8)] 0)),.str (GK (Dw 2 [(115:UInt8)] 0)),.int .i64 (FO (Dw 2 [(115:UInt8)] 0))]]::c14q6),.agg (IP .i64 9::HW [(61:UInt8)]::IP .i64 0::II [Hd [.int .i64 (Gh (Dw 4 [(115:UInt8)] 0)),.str (GK (Dw 4 [(115:UInt8)] 0)),.int .i64 (FO (Dw 4 [(115:UInt8)] 0))],.agg [.int .i64 (Gh (Dw 1 [] 0)),.str (GK (Dw 1 [] 0)),.int .i64 (FO (Dw 1 [] 0))]]::c14q6)]]],.sl c14q1]])
 ·kernel_rfl
 delta c14q1 c14q6 c14q5 c14q4 c14q3 c14q2;kernel_rfl
def eG (a:Pn):D:=Hd [.sl (IT H9 (Hk (HU a))),.sl (IT H8 (Hg (HU a))),.sl (IT Hy (Hi (HU a))),.sl (IT Hx (Hh (HU a))),.sl (IT H7 (Hn (HU a))),.sl (IT Hm (F6 a)),.sl (IT intD (GX a))]
def ZF (a:Pn) (b:IU Pl):IU D:=[eG a,.agg [.sl []],.agg [.sl (IT H6 b)]]
theorem Kw (hM:M.Ok) (hF:M.Fn) (m:Int) (p:Pn) (no:Int) (w:IU Pl) (cost:Int) (best:Bool) (hp:p.Fits) (hw:w.length<1099511627776):IK Tryz.prog (GA M m) 300 [eH 1 p no w cost best] (· = [.bool ((zJ p w).1&&((zJ p w).2==cost&&(xO p [] w&&(!best||vY p [] w))))]):=by
 have h7:=h7 hM hF m p w hp hw;have h20:=h20 hM m p [] w hp (by decide) hw;have h9:=h9 hM hF m p [] w hp (by decide) hw;unfold eH RS;rw[yj]at *;unfold xl at *;refine zu (LX []) Tryz.func300 ⟨_,rfl⟩ zI ?_;apply @z7 _ (IK Tryz.prog (GA M m) 7 [eG p,.agg [.sl (IT H6 w)]] λ(rs:IU D)=>∃(b:Bool)(n:Int),rs=[IL b,.int .i64 n]/\IK Tryz.prog (GA M m) 20 (ZF p w) λ(rs:IU D)=>∃(b_1:Bool),rs=[IL b_1]/\IK Tryz.prog (GA M m) 9 (ZF p w) λ(rs:IU D)=>∃(b_2:Bool),rs=[IL b_2]/\[IL (bif bif bif b then n==cost else false then b_1 else false then bif !best then true else b_2 else false)]=[IL (Hw (zJ p w)&&(HL (zJ p w)==cost&&(xO p [] w&&(!best||vY p [] w))))])
 ·kernel_rfl
 delta eG ZF;refine h7.use ⟨_,_,rfl,h20.use ⟨_,rfl,h9.use ⟨_,rfl,?_⟩⟩⟩;simp only[zn,zH,Bool.and_assoc]
theorem JA (hM:M.Ok) (hF:M.Fn) (m:Int) (p:Pn) (no:Int) (w:IU Pl) (cost:Int) (best:Bool) (hp:p.Fits):IK Tryz.prog (GA M m) 301 [eH 2 p no w cost best] (· = [.bool (tx p [])]):=by
 have h11:=h11 hM hF m p [] hp (by decide);unfold eH RS;rw[yj]at *;unfold xl at *;refine zu (LX []) Tryz.func301 ⟨_,rfl⟩ zI ?_;apply @z7 _ (IK Tryz.prog (GA M m) 11 [eG p,.agg [.sl []]] λ(rs:IU D)=>∃(b:Bool),rs=[IL b]/\[IL b]=[IL (tx p [])])
 ·kernel_rfl
 delta eG ZF;exact h11.use ⟨_,rfl,rfl⟩
theorem Kv (hF:M.Fn) (m:Int) (p:Pn) (no:Int) (w:IU Pl) (cost:Int) (best:Bool) (b:Bool) (h:IK Tryz.prog (GA M m) 300 [eH 1 p no w cost best] (· = [.bool b])):IK Tryz.prog (GA M m) 15 [eH 1 p no w cost best] (· = [.bool b]):=by
 unfold eH RS at *;refine zu (LX []) Tryz.func15 ⟨_,rfl⟩ zI ?_;apply @z7 _ ((F0 (Bo M) λ(kv:D×D)=>sameKind (IP .i64 1) (Hw kv)&&Ft Sh.fn (HL kv))=true/\∃(k:Nat),zzv ((λ(_:Unit)=>none) ()) (λ(val:D)=>(λ(val:D)=>(λ(x:D)=>some (D.toFn x)) val) val) (zT (Bo M) (IP .i64 1))=some k/\rN Tryz.prog k=true/\IK Tryz.prog (GA M m) k [Hd (IP .i64 1::II (IT H9 (Hk (HU p)))::II (IT H8 (Hg (HU p)))::II (IT Hy (Hi (HU p)))::II (IT Hx (Hh (HU p)))::II (IT H7 (Hn (HU p)))::II (IT Hm (F6 p))::II (IT intD (GX p))::II []::IP .i64 no::II (IT H6 w)::IP .i64 cost::IL best::IP .i64 0::IP .i64 0::IP .i64 0::II []::II []::IP .i64 0::II []::II []::IP .i64 0::c14q1)] λ(rs:IU D)=>∃(b_1:Bool),rs=[IL b_1]/\[IL (bif B5 (zT (Bo M) (IP .i64 1))then b_1 else false)]=[IL b])
 ·kernel_rfl
 delta c14q1 c14q6 c14q5 c14q4 c14q3 c14q2;have e:=hF.akG 1;have e2:zT M.ak (.int .i64 1)=some (.fn 300):=e;rw[e2];exact⟨(by have h1:=hF.akA;rw[G3]at h1 ⊢;intro x hx;rw[mG];exact h1 x hx),300,rfl,by kernel_rfl,h.use ⟨_,rfl,rfl⟩⟩
theorem I0 (hF:M.Fn) (m:Int) (p:Pn) (no:Int) (w:IU Pl) (cost:Int) (best:Bool) (b:Bool) (h:IK Tryz.prog (GA M m) 301 [eH 2 p no w cost best] (· = [.bool b])):IK Tryz.prog (GA M m) 15 [eH 2 p no w cost best] (· = [.bool b]):=by
 unfold eH RS at *;refine zu (LX []) Tryz.func15 ⟨_,rfl⟩ zI ?_;apply @z7 _ ((F0 (Bo M) λ(kv:D×D)=>sameKind (IP .i64 2) (Hw kv)&&Ft Sh.fn (HL kv))=true/\∃(k:Nat),zzv ((λ(_:Unit)=>none) ()) (λ(val:D)=>(λ(val:D)=>(λ(x:D)=>some (D.toFn x)) val) val) (zT (Bo M) (IP .i64 2))=some k/\rN Tryz.prog k=true/\IK Tryz.prog (GA M m) k [Hd (IP .i64 2::II (IT H9 (Hk (HU p)))::II (IT H8 (Hg (HU p)))::II (IT Hy (Hi (HU p)))::II (IT Hx (Hh (HU p)))::II (IT H7 (Hn (HU p)))::II (IT Hm (F6 p))::II (IT intD (GX p))::II []::IP .i64 no::II (IT H6 w)::IP .i64 cost::IL best::IP .i64 0::IP .i64 0::IP .i64 0::II []::II []::IP .i64 0::II []::II []::IP .i64 0::c14q1)] λ(rs:IU D)=>∃(b_1:Bool),rs=[IL b_1]/\[IL (bif B5 (zT (Bo M) (IP .i64 2))then b_1 else false)]=[IL b])
 ·kernel_rfl
 delta c14q1 c14q6 c14q5 c14q4 c14q3 c14q2;have e:=hF.akG 2;have e2:zT M.ak (.int .i64 2)=some (.fn 301):=e;rw[e2];exact⟨(by have h1:=hF.akA;rw[G3]at h1 ⊢;intro x hx;rw[mG];exact h1 x hx),301,rfl,by kernel_rfl,h.use ⟨_,rfl,rfl⟩⟩
def c5q7 (a:IU D) (b:IU D) (c:IU D) (d:IU D) (e:IU D) (f:IU D) (g:IU D):D:=Hd [.sl a,.sl b,.sl c,.sl d,.sl e,.sl f,.sl g]
def c5q3:D:=Hd [.sl [Hd (IP .i64 1::c14q1)]]
def c5q6:IU D:=[c5q3]
def Mc (a:IU D) (b:IU D) (c:IU D) (d:IU D) (e:IU D) (f:IU D) (g:IU D):IU D:=c5q7 a b c d e f g::c5q6
def c5q4:IU D:=[II []]
def c5q5:D:=Hd c5q4
def c5q2:IU D:=[Hd [.sl [Hd (IP .i64 0::c14q1)]]]
def eF (a:IU D) (b:Bool):Prop:=a=[IL b]
def c5q1:IU D:=IP .i64 0::IP .i64 0::IP .i64 0::II []::II []::IP .i64 0::II []::II []::IP .i64 0::c14q1
theorem c5 (hM:M.Ok) (hF:M.Fn) (m:Int):IK Tryz.prog (GA M m) 5 [] (· = [.bool true]):=by
 have c14:=c14 (M:=M) m;have h1:=h7 hM hF m exP w2 exP_fits (by decide);have h2:=h7 hM hF m exP [] exP_fits (by decide);have b1:=h9 hM hF m exP [] w1 exP_fits (by decide) (by decide);have b2:=h9 hM hF m exP [] w2 exP_fits (by decide) (by decide);have b3:=h9 hM hF m exP w2 w2 exP_fits (by decide) (by decide);have b4:=h9 hM hF m exP w2 w1 exP_fits (by decide) (by decide);have n1:=h11 hM hF m exP w2 exP_fits (by decide);rw[ex_h2]at h1;rw[ex_h0]at h2;rw[ex_b1]at b1;rw[ex_b2]at b2;rw[ex_b3]at b3;rw[ex_b4]at b4;rw[ex_n1]at n1;have e1:=Kv hF m exP 1 w1 0 true _ (Kw hM hF m exP 1 w1 0 true exP_fits (by decide));rw[ex_h1,ex_o1,ex_b1]at e1;have e2:=Kv hF m exP 1 w2 2 false _ (Kw hM hF m exP 1 w2 2 false exP_fits (by decide));rw[ex_h2,ex_o2,ex_b2]at e2;have e3:=I0 hF m exP 0 [] 0 false _ (JA hM hF m exP 0 [] 0 false exP_fits);rw[ex_n0]at e3;have y1:=JC hM hF m;have y2:=JB hM hF m;generalize exP=p at *;unfold eH RS at *;rw[yj]at *;unfold xl at *;refine zq Tryz.func5 ⟨_,rfl⟩ ?_;apply @z7 _ (IK Tryz.prog (GA M m) 14 [] λ(rs:IU D)=>∃(l:IU D)(l_1:IU D)(l_2:IU D)(l_3:IU D)(l_4:IU D)(l_5:IU D)(l_6:IU D),rs=[c5q7 l l_1 l_2 l_3 l_4 l_5 l_6]/\IK Tryz.prog (GA M m) 7 (Mc l l_1 l_2 l_3 l_4 l_5 l_6) λ(rs:IU D)=>∃(b:Bool)(n:Int),rs=[IL b,.int .i64 n]/\IK Tryz.prog (GA M m) 7 [c5q7 l l_1 l_2 l_3 l_4 l_5 l_6,c5q5] λ(rs:IU D)=>∃(b_1:Bool)(n_1:Int),rs=[IL b_1,.int .i64 n_1]/\IK Tryz.prog (GA M m) 9 (c5q7 l l_1 l_2 l_3 l_4 l_5 l_6::c5q5::c5q2) λ(rs:IU D)=>∃(b_2:Bool),eF rs b_2/\IK Tryz.prog (GA M m) 9 (c5q7 l l_1 l_2 l_3 l_4 l_5 l_6::c5q5::c5q6) λ(rs:IU D)=>∃(b_3:Bool),eF rs b_3/\IK Tryz.prog (GA M m) 9 (c5q7 l l_1 l_2 l_3 l_4 l_5 l_6::c5q3::c5q6) λ(rs:IU D)=>∃(b_4:Bool),eF rs b_4/\IK Tryz.prog (GA M m) 9 (c5q7 l l_1 l_2 l_3 l_4 l_5 l_6::c5q3::c5q2) λ(rs:IU D)=>∃(b_5:Bool),eF rs b_5/\IK Tryz.prog (GA M m) 15 [Hd (IP .i64 1::II l::II l_1::II l_2::II l_3::II l_4::II l_5::II l_6::II []::IP .i64 1::II [Hd (IP .i64 0::c14q1)]::IP .i64 0::IL true::c5q1)] λ(rs:IU D)=>∃(b_6:Bool),eF rs b_6/\IK Tryz.prog (GA M m) 15 [Hd (IP .i64 1::II l::II l_1::II l_2::II l_3::II l_4::II l_5::II l_6::II []::IP .i64 1::II [Hd (IP .i64 1::c14q1)]::IP .i64 2::IL false::c5q1)] λ(rs:IU D)=>∃(b_7:Bool),eF rs b_7/\IK Tryz.prog (GA M m) 15 [Hd (IP .i64 2::II l::II l_1::II l_2::II l_3::II l_4::II l_5::II l_6::II []::IP .i64 0::II []::IP .i64 0::IL false::c5q1)] λ(rs:IU D)=>∃(b_8:Bool),eF rs b_8/\IK Tryz.prog (GA M m) 11 (Mc l l_1 l_2 l_3 l_4 l_5 l_6) λ(rs:IU D)=>∃(b_9:Bool),eF rs b_9/\IK Tryz.prog (GA M m) 16 [c5q7 l l_1 l_2 l_3 l_4 l_5 l_6,.agg [.int .i64 1,.sl [],.sl c5q4]] λ(rs:IU D)=>∃(b_10:Bool),eF rs b_10/\IK Tryz.prog (GA M m) 16 [c5q7 l l_1 l_2 l_3 l_4 l_5 l_6,.agg (IP .i64 1::II c5q4::c5q4)] λ(rs:IU D)=>∃(b_11:Bool),eF rs b_11/\[IL (bif bif bif bif bif bif bif bif b then n==3 else false then !b_1 else false then n_1==0 else false then bif bif bif b_2 then !b_3 else false then b_4 else false then !b_5 else false else false then bif bif b_6 then !b_7 else false then !b_8 else false else false then !b_9 else false then b_10 else false then !b_11 else false)]=[IL true])
 ·kernel_rfl
 delta c5q7 Mc c5q6 c5q3 c14q1 c14q6 c14q5 c14q4 c14q3 c14q2 c5q5 c5q4 c5q2 eF c5q1;exact c14.use ⟨_,_,_,_,_,_,_,rfl,h1.use ⟨_,_,rfl,h2.use ⟨_,_,rfl,b1.use ⟨_,rfl,b2.use ⟨_,rfl,b3.use ⟨_,rfl,b4.use ⟨_,rfl,e1.use ⟨_,rfl,e2.use ⟨_,rfl,e3.use ⟨_,rfl,n1.use ⟨_,rfl,y1.use ⟨_,rfl,y2.use ⟨_,rfl,rfl⟩⟩⟩⟩⟩⟩⟩⟩⟩⟩⟩⟩⟩
end
section
variable {M:Gf}
def UX (a:IU D) (b:Bool):Prop:=a=[IL b]
def f3q2:IU D:=[IL true]
def OB (a:Pn):D:=Hd [.sl (IT H9 (Hk (HU a))),.sl (IT H8 (Hg (HU a))),.sl (IT Hy (Hi (HU a))),.sl (IT Hx (Hh (HU a))),.sl (IT H7 (Hn (HU a))),.sl (IT Hm (F6 a)),.sl (IT intD (GX a))]
def Mb (a:Bool) (b:IU Pl) (c:IU Pl):Bool:=bif bif !a then true else decide ((↑(IR (IT H6 b)):Int)>70)then true else decide ((↑(IR (IT H6 c)):Int)>70)
def OA (a:Pn) (b:IU Pl):IU D:=[OB a,.agg [.sl (IT H6 b)]]
theorem f3 (hM:M.Ok) (hF:M.Fn) (m:Int) (p:Pn) (old w:IU Pl) (hp:p.Fits) (ho:old.length<1099511627776) (hw:w.length<1099511627776):IK Tryz.prog (GA M m) 3 [p.d,xl old,xl w] (· = [.bool true]):=by
 have c5:=c5 hM hF m;have h6:=h6 (G:=GA M m) p hp;have h7:=h7 hM hF m p w hp hw;have h8:=h8 (G:=GA M m) p w hp hw;have h9:=h9 hM hF m p old w hp ho hw;have h10:=h10 (G:=GA M m) p old w hp ho hw;have h11:=h11 hM hF m p old hp ho;have h12:=h12 (G:=GA M m) p old hp ho;rw[yj]at *;unfold xl at *;refine zq Tryz.func3 ⟨_,rfl⟩ ?_;apply @z7 _ (IK Tryz.prog (GA M m) 5 [] λ(rs:IU D)=>∃(b:Bool),UX rs b/\((!b)=true->[IL false]=f3q2)/\((!b)=false->IK Tryz.prog (GA M m) 6 [OB p] λ(rs:IU D)=>∃(b:Bool),UX rs b/\(Mb b old w=true->f3q2=f3q2)/\(Mb b old w=false->IK Tryz.prog (GA M m) 7 (OA p w) λ(rs:IU D)=>∃(b:Bool)(n:Int),rs=[IL b,.int .i64 n]/\IK Tryz.prog (GA M m) 8 (OA p w) λ(rs:IU D)=>∃(b_1:Bool)(n_1:Int),rs=[IL b_1,.int .i64 n_1]/\IK Tryz.prog (GA M m) 9 [OB p,.agg [.sl (IT H6 old)],.agg [.sl (IT H6 w)]] λ(rs:IU D)=>∃(b_2:Bool),UX rs b_2/\IK Tryz.prog (GA M m) 10 [OB p,.agg [.sl (IT H6 old)],.agg [.sl (IT H6 w)]] λ(rs:IU D)=>∃(b_3:Bool),UX rs b_3/\IK Tryz.prog (GA M m) 11 (OA p old) λ(rs:IU D)=>∃(b_4:Bool),UX rs b_4/\IK Tryz.prog (GA M m) 12 (OA p old) λ(rs:IU D)=>∃(b_5:Bool),UX rs b_5/\[IL (bif bif bif b==b_1 then n==n_1 else false then b_2==b_3 else false then b_4==b_5 else false)]=f3q2)))
 ·kernel_rfl
 delta UX f3q2 OB Mb OA;refine c5.use ⟨_,rfl,λh=>(by cases h),λ_=>h6.mono ?_⟩;rintro rs ⟨b,rfl⟩;refine⟨b,rfl,λ_=>rfl,λ_=>h7.use ⟨_,_,rfl,h8.use ⟨_,_,rfl,h9.use ⟨_,rfl,h10.use ⟨_,rfl,h11.use ⟨_,rfl,h12.use ⟨_,rfl,?_⟩⟩⟩⟩⟩⟩⟩;simp only[beq_self_eq_true,cond_true]
end
end Go.Fo
