/- Joined texts: the walk by computed conditions, the contracts of the functions, the plain laws. -/
import Derived.Test.YtfegegkkdfkllaaGreatDoorW1
import Derived.Test.YtfegegkkdfkllaaGreatDoorW2
import Derived.Shelf.Strings.SlTrimAscii
import Derived.Shelf.Strconv.Itoa3
import Derived.Shelf.Strings.Search3
import Derived.Shelf.Strings.FuncGrows
import Derived.Lib.SlTrimSet
set_option linter.unusedVariables false
set_option linter.unusedSimpArgs false
set_option maxRecDepth 100000
set_option maxHeartbeats 0
noncomputable section
open Array renaming toList->Gx
open Bool renaming and_eq_false_iff->FH,and_eq_true->HC,and_false->C8,eq_iff_iff->Ge,false_and->Dp,false_eq_true->FU,false_or->FD,not_eq_false'->C5,not_eq_true'->Fe,not_false->Aa,not_true->El,or_eq_false_iff->E3,or_eq_true->F9,true_and->EB
open ByteArray renaming data->Gy,mk->Gu
open Classical renaming em->EA
open Go renaming Code->He,LoopState->HJ,Program->HP
open Go.Code renaming exit->DV,ret->FJ
open Go.Fo.Bd renaming d->ID,name->DC,sort->Cr
open Go.Fo.Fm renaming bs->HN,checkI->ES,d->HV,d_mk->A5,depths->Ei,formB->F8,induct->Ex,kind->Hj,l->Hz,mk->E1,n->HB,name->HE,rank->Dj,ranks->GB,ts->HM,wt_lt->CO
open Go.Fo.Tm renaming d->Hq,kind->Gh,n->FO,name->GK
open Go.IntKind renaming i64->Ho,wrap->Hr
open Go.Lib renaming idxFunc->zyE,idxFuncFrom->zym,trimS->CP
open Go.LoopState renaming busy->Do,done->Dn,ready->GY
open Go.Proofs.Lays renaming n144->zuj,n160->zul,n171->zuk
open Go.Proofs.LaysGw renaming n17->zun
open Go.Shelf renaming Ren->AQ
open Go.Sx renaming PCall->HY,PFn->IK,PYield->Gi,rowAt->Ew
open Go.Sx.AV renaming any->IM,clo->Gg,d->IH,iptr->GO,map->Fu,nils->A6,ptr->IA,yld->G2
open Go.Sx.Box renaming cells->Hl,loop->Gz
open Go.Sx.D renaming agg->Hd,bool->IL,cells->Gq,int->IP,sl->II,str->HW,toBool->E8,toInt->Hf,toSl->Gl,toStr->Gc
open Go.Sx.PFnA renaming walk->Bv
open Go.Sx.PYield renaming walk->DW
open Go.Sx.Sh renaming bool->EL,int->HX,norm->GP,ok->Ft,sl->HK,str->HI
open Go.Utf8 renaming decode->AC
open Int renaming tdiv->A0,toNat->IJ,toNat_natCast->HF
open List renaming Nodup->CI,all->F0,all_append->Fb,all_cons->D8,all_eq_false->D3,all_eq_true->G3,any->Fk,any_append->B2,any_cons->E5,any_eq_true->Dr,any_nil->BJ,append->D9,append_assoc->DN,append_nil->D5,contains->DI,contains_eq_mem->Ao,contains_iff_mem->Dt,drop->GM,dropWhile_cons->zxO,drop_eq_getElem_cons->At,drop_eq_nil_of_le->Fx,find?->zzx,flatten->zyY,getD->DF,getD_eq_getElem?_getD->Es,getElem?_eq_getElem->Ff,getElem?_eq_none->Gt,getElem?_map->G5,getElem?_take->Fa,getElem_mem->ED,length->IR,length_append->FG,length_cons->F2,length_map->H4,length_nil->FL,length_pos_iff->Bb,length_reverse->zxN,length_take->FS,lookup->Bz,map->IT,map_append->GI,map_cons->Gb,map_map->CT,map_nil->FQ,map_take->BM,mem_append->FK,mem_cons->F5,mem_iff_getElem->EF,mem_map->Gd,mem_of_getElem?->GS,mem_range->Fz,mem_singleton->CB,nodup_append->BW,nodup_cons->EO,not_mem_nil->DM,range->Gp,range_succ->BP,replicate->G8,reverse->G6,take->HZ,take_add_one->GN,take_append_drop->CD,take_of_length_le->Gs,take_sublist->B0,take_succ_cons->FM
open List.Nodup renaming sublist->Aj
open List.Sublist renaming map->zw8
open Nat renaming add_mul->FC,add_zero->DX,eq_zero_or_pos->C4,lt_or_ge->G4,mul_le_mul->B4,zero_le->GD
open Option renaming getD->IB,getD_some->FT,isSome->B5,isSome_some->Dd,toList_some->Cf
open Prod renaming fst->Hw,snd->HL
open UInt8 renaming ofNat->AB,toNat->B9
open _root_ renaming ByteArray->HT,False->HD,List->IU,Option->IQ,True->IN,absurd->Hu,congrArg->Gv,decide_eq_false_iff_not->HH,decide_eq_true_eq->HS,if_neg->IE,if_pos->Hv,of_decide_eq_true->G0
namespace Go.Fo
open Go Go.Sx Go.Proofs
def s7 (f:Fm):IU D:=[.int .i64 f.kind,.str f.name,.int .i64 f.n,.sl (f.ts.map Hq),.sl (f.bs.map ID),.sl (f.l.map HV)]
theorem yf (f:Fm):f.d = .agg (s7 f):=f.d_eq
def dP (f:Fm):IU AV:=[.d (.int .i64 f.kind),.d (.str f.name),.d (.int .i64 f.n),.d (.sl (f.ts.map Hq)),.d (.sl (f.bs.map ID)),.d (.sl (f.l.map HV))]
def M0 (ds:IU D):AV:= .clo 216 [] [.iptr (ds.getD 0 default).cells]
section
variable {G:Nat->IQ (IU D)}
theorem Ly (f:Fm):PFnA Tryz.prog G 189 [.agg (s7 f)] (· = .clo 216 [] [.iptr (s7 f)]):=by
 refine Bv (fn:=Tryz.f189) (code:=z6 Tryz.f189) mixed L0 Tryz.func189 (by kernel_rfl) tw ?_;apply @z7 _ (Gg (216:Nat) [] [GO [IP Ho (Hj f),HW (HE f),IP Ho (HB f),II (IT Hq (HM f)),II (IT ID (HN f)),II (IT HV (Hz f))]]=Gg (216:Nat) [] [GO [IP Ho (Hj f),HW (HE f),IP Ho (HB f),II (IT Hq (HM f)),II (IT ID (HN f)),II (IT HV (Hz f))]])
 ·kernel_rfl
 rfl
def c15:He:=unScope (z8 (z6 Tryz.f191) 0)
def tm15:IU AV:=[.any,.any,.any,.ptr 1 0,.any,.any,.any,.any,.any,.any]
def h15 (f0:Fm) (k:Int):IU Box:=[.cells 85 (dP f0),.cells 3 [.d (.int .i64 k)],.loop tm15 (zY c15) (zk c15) (zX c15) none .ready]
theorem Lx (f0 x:Fm) (k:Int):Gi Tryz.prog G 2 [.d (.agg (s7 x))] (h15 f0 k) (λrs H'=>rs=[.bool true]/\H'=h15 f0 (Hr .i64 (k+1))):=by
 refine DW (tm:=tm15) (ps:=zY c15) (asn:=zk c15) (bd:=zX c15) mixed L0 rfl (by kernel_rfl) rfl rfl ⟨_,_,rfl,rfl⟩ (λ_=>ns (by kernel_rfl)) (λ_=>ns (by kernel_rfl)) ?_;apply @z7 _ ([IL true]=[IL true]/\[Hl (85:Nat) [IH (IP Ho (Hj f0)),IH (HW (HE f0)),IH (IP Ho (HB f0)),IH (II (IT Hq (HM f0))),IH (II (IT ID (HN f0))),IH (II (IT HV (Hz f0)))],Hl (3:Nat) [IH (IP Ho (Hr Ho (k+(1:Int))))],Gz [IM,IM,IM,IA (1:Nat) (0:Nat),IM,IM,IM,IM,IM,IM] (zY c15) (zk c15) (zX c15) none GY]=[Hl (85:Nat) [IH (IP Ho (Hj f0)),IH (HW (HE f0)),IH (IP Ho (HB f0)),IH (II (IT Hq (HM f0))),IH (II (IT ID (HN f0))),IH (II (IT HV (Hz f0)))],Hl (3:Nat) [IH (IP Ho (Hr Ho (k+(1:Int))))],Gz [IM,IM,IM,IA (1:Nat) (0:Nat),IM,IM,IM,IM,IM,IM] (zY c15) (zk c15) (zX c15) none GY])
 ·kernel_rfl
 exact⟨rfl,rfl⟩
theorem Lw (f0 x:Fm) (k:Int) (h0:0<=k) (hk:k+x.rank<4611686018427387904):HY Tryz.prog G 217 [.d x.d,.yld 2] (h15 f0 k) (λrs H'=>rs=[.bool true]/\H'=h15 f0 (k+x.rank)):=by
 induction x using Ex generalizing k with
 |h x ih =>
 have hr:=x.rank_eq;rw[yf];refine zZ (LL [(4,ze (α:=Nat) Tryz.prog G L0 3 (z8 (z6 Tryz.f217) 0) [1,2,12,13] (λi=>i<=x.l.length) (λi=>x.l.length - i) (λi=>[(14,.d (.int .i64 i))]) (λH i=>h15 f0 (k+1+(GB (x.l.take i):Int))++H.drop 3))]) Tryz.func217 rfl ⟨_,_,rfl,rfl⟩ (zt zz) ?_;apply @z7 _ (Gi Tryz.prog G (2:Nat) [IH (Hd [IP Ho (Hj x),HW (HE x),IP Ho (HB x),II (IT Hq (HM x)),II (IT ID (HN x)),II (IT HV (Hz x))])] [Hl (85:Nat) [IH (IP Ho (Hj f0)),IH (HW (HE f0)),IH (IP Ho (HB f0)),IH (II (IT Hq (HM f0))),IH (II (IT ID (HN f0))),IH (II (IT HV (Hz f0)))],Hl (3:Nat) [IH (IP Ho k)],Gz [IM,IM,IM,IA (1:Nat) (0:Nat),IM,IM,IM,IM,IM,IM] (zY c15) (zk c15) (zX c15) none GY] λ(rs:IU D) (H':IU Box)=>∃(b:Bool),rs=[IL b]/\∃(n:Int)(s:IU UInt8)(n_1:Int)(l:IU D)(l_1:IU D)(l_2:IU D)(n_2:Int)(pend:IQ He)(st: HJ),H'=[Hl (85:Nat) [IH (IP Ho n),IH (HW s),IH (IP Ho n_1),IH (II l),IH (II l_1),IH (II l_2)],Hl (3:Nat) [IH (IP Ho n_2)],Gz [IM,IM,IM,IA (1:Nat) (0:Nat),IM,IM,IM,IM,IM,IM] (zY c15) (zk c15) (zX c15) pend st]/\((!b)=true->[IL false]=[IL true]/\[Hl (85:Nat) [IH (IP Ho n),IH (HW s),IH (IP Ho n_1),IH (II l),IH (II l_1),IH (II l_2)],Hl (3:Nat) [IH (IP Ho n_2)],Gz [IM,IM,IM,IA (1:Nat) (0:Nat),IM,IM,IM,IM,IM,IM] (zY c15) (zk c15) (zX c15) pend st]=[Hl (85:Nat) [IH (IP Ho (Hj f0)),IH (HW (HE f0)),IH (IP Ho (HB f0)),IH (II (IT Hq (HM f0))),IH (II (IT ID (HN f0))),IH (II (IT HV (Hz f0)))],Hl (3:Nat) [IH (IP Ho (k+(↑(Dj x):Int)))],Gz [IM,IM,IM,IA (1:Nat) (0:Nat),IM,IM,IM,IM,IM,IM] (zY c15) (zk c15) (zX c15) none GY])/\((!b)=false->∃(x0:Nat),x0<=IR (Hz x)/\((G2 (2:Nat)=G2 (2:Nat)/\IA (3:Nat) (0:Nat)=IA (3:Nat) (0:Nat)/\IT HV (Hz x)=IT HV (Hz x)/\(↑(IR (IT HV (Hz x))):Int)=(↑(IR (IT HV (Hz x))):Int)/\(0:Int)=(x0:Int)/\IN)/\(n=Hj f0/\s=HE f0/\n_1=HB f0/\l=IT Hq (HM f0)/\l_1=IT ID (HN f0)/\l_2=IT HV (Hz f0)/\IN)/\(n_2=k+(1:Int) + (↑(GB (HZ x0 (Hz x))):Int)/\IN)/\Gz [IM,IM,IM,IA (1:Nat) (0:Nat),IM,IM,IM,IM,IM,IM] (zY c15) (zk c15) (zX c15) pend st=Gz [IM,IM,IM,IA (1:Nat) (0:Nat),IM,IM,IM,IM,IM,IM] (zY c15) (zk c15) (zX c15) none GY/\(Hj x=Hj x/\HE x=HE x/\HB x=HB x/\IT Hq (HM x)=IT Hq (HM x)/\IT ID (HN x)=IT ID (HN x)/\IT HV (Hz x)=IT HV (Hz x)/\IN)/\IN)/\∀(x_1:Nat),x_1<=IR (Hz x)->(decide ((x_1:Int)<(↑(IR (IT HV (Hz x))):Int))=true->((0:Int)<=(x_1:Int)/\(IT HV (Hz x))[IJ (x_1:Int)]? = some (zr [HX Ho,HI,HX Ho,HK,HK,HK] (IT HV (Hz x)) (IJ (x_1:Int))))/\HY Tryz.prog G (217:Nat) [IH (zr [HX Ho,HI,HX Ho,HK,HK,HK] (IT HV (Hz x)) (IJ (x_1:Int))),G2 (2:Nat)] [Hl (85:Nat) [IH (IP Ho (Hj f0)),IH (HW (HE f0)),IH (IP Ho (HB f0)),IH (II (IT Hq (HM f0))),IH (II (IT ID (HN f0))),IH (II (IT HV (Hz f0)))],Hl (3:Nat) [IH (IP Ho (k+(1:Int)+(↑(GB (HZ x_1 (Hz x))):Int)))],Gz [IM,IM,IM,IA (1:Nat) (0:Nat),IM,IM,IM,IM,IM,IM] (zY c15) (zk c15) (zX c15) none GY] λ(rs:IU D) (H':IU Box)=>∃(b:Bool),rs=[IL b]/\∃(n:Int)(s:IU UInt8)(n_3:Int)(l:IU D)(l_3:IU D)(l_4:IU D)(n_4:Int)(pend:IQ He)(st:HJ),H'=[Hl (85:Nat) [IH (IP Ho n),IH (HW s),IH (IP Ho n_3),IH (II l),IH (II l_3),IH (II l_4)],Hl (3:Nat) [IH (IP Ho n_4)],Gz [IM,IM,IM,IA (1:Nat) (0:Nat),IM,IM,IM,IM,IM,IM] (zY c15) (zk c15) (zX c15) pend st]/\((!b)=true->[IL false]=[IL true]/\[Hl (85:Nat) [IH (IP Ho n),IH (HW s),IH (IP Ho n_3),IH (II l),IH (II l_3),IH (II l_4)],Hl (3:Nat) [IH (IP Ho n_4)],Gz [IM,IM,IM,IA (1:Nat) (0:Nat),IM,IM,IM,IM,IM,IM] (zY c15) (zk c15) (zX c15) pend st]=[Hl (85:Nat) [IH (IP Ho (Hj f0)),IH (HW (HE f0)),IH (IP Ho (HB f0)),IH (II (IT Hq (HM f0))),IH (II (IT ID (HN f0))),IH (II (IT HV (Hz f0)))],Hl (3:Nat) [IH (IP Ho (k+(↑(Dj x):Int)))],Gz [IM,IM,IM,IA (1:Nat) (0:Nat),IM,IM,IM,IM,IM,IM] (zY c15) (zk c15) (zX c15) none GY])/\((!b)=false->∃(y:Nat),y<=IR (Hz x)/\IR (Hz x) - y<IR (Hz x) - x_1/\(G2 (2:Nat)=G2 (2:Nat)/\IA (3:Nat) (0:Nat)=IA (3:Nat) (0:Nat)/\IT HV (Hz x)=IT HV (Hz x)/\(↑(IR (IT HV (Hz x))):Int)=(↑(IR (IT HV (Hz x))):Int)/\Hr Ho ((x_1:Int)+(1:Int))=(y:Int)/\IN)/\(n = Hj f0/\s=HE f0/\n_3=HB f0/\l=IT Hq (HM f0)/\l_3=IT ID (HN f0)/\l_4=IT HV (Hz f0)/\IN)/\(n_4=k+(1:Int)+(↑(GB (HZ y (Hz x))):Int)/\IN)/\Gz [IM,IM,IM,IA (1:Nat) (0:Nat),IM,IM,IM,IM,IM,IM] (zY c15) (zk c15) (zX c15) pend st=Gz [IM,IM,IM,IA (1:Nat) (0:Nat),IM,IM,IM,IM,IM,IM] (zY c15) (zk c15) (zX c15) none GY/\(Hj x=Hj x/\HE x=HE x/\HB x=HB x/\IT Hq (HM x)=IT Hq (HM x)/\IT ID (HN x)=IT ID (HN x)/\IT HV (Hz x)=IT HV (Hz x)/\IN)/\IN))/\(decide ((x_1:Int)<(↑(IR (IT HV (Hz x))):Int))=false->[IL true]=[IL true]/\[Hl (85:Nat) [IH (IP Ho (Hj f0)),IH (HW (HE f0)),IH (IP Ho (HB f0)),IH (II (IT Hq (HM f0))),IH (II (IT ID (HN f0))),IH (II (IT HV (Hz f0)))],Hl (3:Nat) [IH (IP Ho (k+(1:Int)+(↑(GB (HZ x_1 (Hz x))):Int)))],Gz [IM,IM,IM,IA (1:Nat) (0:Nat),IM,IM,IM,IM,IM,IM] (zY c15) (zk c15) (zX c15) none GY]=[Hl (85:Nat) [IH (IP Ho (Hj f0)),IH (HW (HE f0)),IH (IP Ho (HB f0)),IH (II (IT Hq (HM f0))),IH (II (IT ID (HN f0))),IH (II (IT HV (Hz f0)))],Hl (3:Nat) [IH (IP Ho (k+(↑(Dj x):Int)))],Gz [IM,IM,IM,IA (1: Nat) (0:Nat),IM,IM,IM,IM,IM,IM] (zY c15) (zk c15) (zX c15) none GY])))
 ·kernel_rfl
 refine(Lx f0 x k).mono ?_;rintro rs H' ⟨rfl,rfl⟩;refine⟨true,rfl,_,_,_,_,_,_,_,_,_,rfl,λh=>Hu h (by decide),λ_=>⟨0,by omega,⟨⟨rfl,rfl,rfl,rfl,rfl,trivial⟩,⟨rfl,rfl,rfl,rfl,rfl,rfl,trivial⟩,⟨?_,trivial⟩,rfl,⟨rfl,rfl,rfl,rfl,rfl,rfl,trivial⟩,trivial⟩,λi hi=>⟨λhlt=>?_,λhge=>?_⟩⟩⟩
 ·rw[zx (by omega) (by omega)];simp[GB]
 ·simp only[H4,HS]at hlt;obtain⟨z,hz,hm⟩:=zw (l:=x.l) (x:=i) (by omega);rw[HF,wZ hz];refine⟨⟨by omega,by simp[hz]⟩,?_⟩;have h1:=qd hz;have h2:=nr x.l (i+1);have h3:=o0 x.l;refine(ih z hm _ (by omega) (by omega)).mono ?_;rintro rs H' ⟨rfl,rfl⟩;refine⟨true,rfl,_,_,_,_,_,_,_,_,_,rfl,λh=>Hu h (by decide),λ_=>⟨i+1,by omega,by omega,⟨rfl,rfl,rfl,rfl,?_,trivial⟩,⟨rfl,rfl,rfl,rfl,rfl,rfl,trivial⟩,⟨?_,trivial⟩,rfl,⟨rfl,rfl,rfl,rfl,rfl,rfl,trivial⟩,trivial⟩⟩
  ·rw[zx (by omega) (by omega)];simp
  ·rw[h1];omega
 ·simp only[H4,HH]at hge;rw[Gs (by omega)];have e:k+1+(GB x.l:Int)=k+x.rank:=by omega
  rw[e];exact⟨rfl,rfl⟩
theorem Lv (f0 x:Fm) (k:Int) (h0:0<=k) (hk:k+x.rank<4611686018427387904):HY Tryz.prog G 216 [.yld 2,.iptr (s7 x)] (h15 f0 k) (λ_ H'=>H'=h15 f0 (k+x.rank)):=by
 refine zB Tryz.func216 rfl ⟨[],_,rfl⟩ ?_;apply @z7 _ (HY Tryz.prog G (217:Nat) [IH (Hd [IP Ho (Hj x),HW (HE x),IP Ho (HB x),II (IT Hq (HM x)),II (IT ID (HN x)),II (IT HV (Hz x))]),G2 (2:Nat)] [Hl (85:Nat) [IH (IP Ho (Hj f0)),IH (HW (HE f0)),IH (IP Ho (HB f0)),IH (II (IT Hq (HM f0))),IH (II (IT ID (HN f0))),IH (II (IT HV (Hz f0)))],Hl (3:Nat) [IH (IP Ho k)],Gz [IM,IM,IM,IA (1:Nat) (0:Nat),IM,IM,IM,IM,IM,IM] (zY c15) (zk c15) (zX c15) none GY] λ(rs:IU D) (H':IU Box)=>∃(b:Bool),rs=[IL b]/\∃(n:Int)(s:IU UInt8)(n_1:Int)(l:IU D)(l_1:IU D)(l_2:IU D)(n_2:Int)(pend: IQ He)(st:HJ),H'=[Hl (85:Nat) [IH (IP Ho n),IH (HW s),IH (IP Ho n_1),IH (II l),IH (II l_1),IH (II l_2)],Hl (3:Nat) [IH (IP Ho n_2)],Gz [IM,IM,IM,IA (1:Nat) (0:Nat),IM,IM,IM,IM,IM,IM] (zY c15) (zk c15) (zX c15) pend st]/\[Hl (85:Nat) [IH (IP Ho n),IH (HW s),IH (IP Ho n_1),IH (II l),IH (II l_1),IH (II l_2)],Hl (3:Nat) [IH (IP Ho n_2)],Gz [IM,IM,IM,IA (1:Nat) (0:Nat),IM,IM,IM,IM,IM,IM] (zY c15) (zk c15) (zX c15) pend st]=[Hl (85:Nat) [IH (IP Ho (Hj f0)),IH (HW (HE f0)),IH (IP Ho (HB f0)),IH (II (IT Hq (HM f0))),IH (II (IT ID (HN f0))),IH (II (IT HV (Hz f0)))],Hl (3:Nat) [IH (IP Ho (k+(↑(Dj x):Int)))],Gz [IM,IM,IM,IA (1:Nat) (0:Nat),IM,IM,IM,IM,IM,IM] (zY c15) (zk c15) (zX c15) none GY])
 ·kernel_rfl
 have h:=Lw (G:=G) f0 x k h0 hk;rw[yf]at h;refine h.mono ?_;rintro rs H' ⟨rfl,rfl⟩;exact⟨true,rfl,_,_,_,_,_,_,_,_,_,rfl,rfl⟩
theorem KU (f:Fm) (hf:f.rank<4611686018427387904):IK Tryz.prog G 191 [f.d] (· = [.int .i64 f.rank]):=by
 rw[f.d_eq];refine zu (LL [(1000002,uT Tryz.prog G [3] M0 c15)]) Tryz.func191 ⟨_,rfl⟩ (zt (xy (by kernel_rfl))) ?_;apply @z7 _ ((PFnA Tryz.prog G (189:Nat) [Hd [IP Ho (Hj f),HW (HE f),IP Ho (HB f),II (IT Hq (HM f)),II (IT ID (HN f)),II (IT HV (Hz f))]] λ(av:AV)=>av=Gg (216:Nat) [] [GO [IP Ho (Hj f),HW (HE f),IP Ho (HB f),II (IT Hq (HM f)),II (IT ID (HN f)),II (IT HV (Hz f))]])/\HY Tryz.prog G (216:Nat) [G2 (2:Nat),GO [IP Ho (Hj f),HW (HE f),IP Ho (HB f),II (IT Hq (HM f)),II (IT ID (HN f)),II (IT HV (Hz f))]] [Hl (85:Nat) [IH (IP Ho (Hj f)),IH (HW (HE f)),IH (IP Ho (HB f)),IH (II (IT Hq (HM f))),IH (II (IT ID (HN f))),IH (II (IT HV (Hz f)))],Hl (3:Nat) [IH (IP Ho (0:Int))],Gz [IM,IM,IM,IA (1:Nat) (0:Nat),IM,IM,IM,IM,IM,IM] (zY c15) (zk c15) (zX c15) none GY] λ(x:IU D) (H':IU Box)=>∃(n:Int)(s:IU UInt8)(n_1:Int)(l:IU D)(l_1:IU D)(l_2:IU D)(n_2:Int)(pend:IQ He)(st:HJ),H'=[Hl (85:Nat) [IH (IP Ho n),IH (HW s),IH (IP Ho n_1),IH (II l),IH (II l_1),IH (II l_2)],Hl (3:Nat) [IH (IP Ho n_2)],Gz [IM,IM,IM,IA (1:Nat) (0:Nat),IM,IM,IM,IM,IM,IM] (zY c15) (zk c15) (zX c15) pend st]/\st≠Do/\(pend=none/\[IP Ho n_2]=[IP Ho (↑(Dj f): Int)]∨pend=some FJ/\[IP Ho (0:Int)]=[IP Ho (↑(Dj f):Int)]∨pend=some (DV (W9 c15))/\[IP Ho n_2]=[IP Ho (↑(Dj f):Int)]))
 ·kernel_rfl
 refine⟨Ly f,?_⟩;refine(Lv f f 0 (by omega) (by omega)).mono ?_;rintro rs H' rfl;exact⟨_,_,_,_,_,_,_,_,_,rfl,by decide,.inl ⟨rfl,by simp⟩⟩
end
end Go.Fo
namespace Go.Proofs
open Go.Shelf
def Tryz.lays160_ren:AQ:=⟨λ|160=>251|232=>266|231=>265|227=>267|234=>269|233=>268|236=>271|235=>270|228=>275|271=>278|151=>277|197=>276|120=>281|152=>280|260=>279|137=>282|119=>283|224=>214|225=>213|217=>212|266=>248|n=>n,λ|9=>9|4=>4|3=>3|5=>5|117=>302|116=>301|0=>0|124=>305|21=>21|105=>309|46=>231|119=>315|139=>318|138=>317|n=>n,λ|3=>12|4=>13|n=>n⟩
theorem Tryz.lays160:zul Tryz.prog Tryz.lays160_ren:= {
 mixed:=by kernel_rfl
 f119:=Tryz.func283.trans (Gv some (by kernel_rfl))
 f120:=Tryz.func281.trans (Gv some (by kernel_rfl))
 f137:=Tryz.func282.trans (Gv some (by kernel_rfl))
 f151:=Tryz.func277.trans (Gv some (by kernel_rfl))
 f152:=Tryz.func280.trans (Gv some (by kernel_rfl))
 f160:=Tryz.func251.trans (Gv some (by kernel_rfl))
 f197:=Tryz.func276.trans (Gv some (by kernel_rfl))
 f217:=Tryz.func212.trans (Gv some (by kernel_rfl))
 f224:=Tryz.func214.trans (Gv some (by kernel_rfl))
 f225:=Tryz.func213.trans (Gv some (by kernel_rfl))
 f227:=Tryz.func267.trans (Gv some (by kernel_rfl))
 f228:=Tryz.func275.trans (Gv some (by kernel_rfl))
 f231:=Tryz.func265.trans (Gv some (by kernel_rfl))
 f232:=Tryz.func266.trans (Gv some (by kernel_rfl))
 f233:=Tryz.func268.trans (Gv some (by kernel_rfl))
 f234:=Tryz.func269.trans (Gv some (by kernel_rfl))
 f235:=Tryz.func270.trans (Gv some (by kernel_rfl))
 f236:=Tryz.func271.trans (Gv some (by kernel_rfl))
 f260:=Tryz.func279.trans (Gv some (by kernel_rfl))
 f266:=Tryz.func248.trans (Gv some (by kernel_rfl))
 f271:=Tryz.func278.trans (Gv some (by kernel_rfl))
 t0:=Tryz.underlying0
 a0:=Tryz.isAgg0
 z0:=Tryz.sizeOf0
 v0:=Tryz.zeroValue0
 t3:=Tryz.underlying3
 a3:=Tryz.isAgg3
 z3:=Tryz.sizeOf3
 v3:=Tryz.zeroValue3
 t4:=Tryz.underlying4
 a4:=Tryz.isAgg4
 z4:=Tryz.sizeOf4
 v4:=Tryz.zeroValue4
 t5:=Tryz.underlying5
 a5:=Tryz.isAgg5
 z5:=Tryz.sizeOf5
 v5:=Tryz.zeroValue5
 t9:=Tryz.underlying9
 a9:=Tryz.isAgg9
 z9:=Tryz.sizeOf9
 v9:=Tryz.zeroValue9
 t21:=Tryz.underlying21
 a21:=Tryz.isAgg21
 z21:=Tryz.sizeOf21
 v21:=Tryz.zeroValue21
 t46:=Tryz.underlying231
 a46:=Tryz.isAgg231
 z46:=Tryz.sizeOf231
 v46:=Tryz.zeroValue231
 t105:=Tryz.underlying309
 a105:=Tryz.isAgg309
 z105:=Tryz.sizeOf309
 v105:=Tryz.zeroValue309
 t116:=Tryz.underlying301
 a116:=Tryz.isAgg301
 z116:=Tryz.sizeOf301
 t117:=Tryz.underlying302
 a117:=Tryz.isAgg302
 z117:=Tryz.sizeOf302
 v117:=Tryz.zeroValue302
 t119:=Tryz.underlying315
 a119:=Tryz.isAgg315
 z119:=Tryz.sizeOf315
 t124:=Tryz.underlying305
 a124:=Tryz.isAgg305
 z124:=Tryz.sizeOf305
 v124:=Tryz.zeroValue305
 t138:=Tryz.underlying317
 a138:=Tryz.isAgg317
 z138:=Tryz.sizeOf317
 v138:=Tryz.zeroValue317
 t139:=Tryz.underlying318
 a139:=Tryz.isAgg318
 z139:=Tryz.sizeOf318
 v139:=Tryz.zeroValue318
 g3:=by kernel_rfl
 g4:=by kernel_rfl }
def Tryz.lays171_ren:AQ:=⟨λ|171=>147|243=>185|246=>211|283=>244|284=>245|285=>246|286=>247|129=>239|317=>261|318=>262|319=>263|320=>264|337=>273|338=>274|n=>n,λ|3=>3|9=>9|2=>2|4=>4|171=>280|0=>0|53=>279|37=>282|5=>5|173=>283|212=>297|51=>277|20=>20|213=>298|46=>231|232=>312|233=>313|n=>n,λ|17=>9|18=>10|19=>11|n=>n⟩
theorem Tryz.lays171:zuk Tryz.prog Tryz.lays171_ren:= {
 mixed:=by kernel_rfl
 f129:=Tryz.func239.trans (Gv some (by kernel_rfl))
 f171:=Tryz.func147.trans (Gv some (by kernel_rfl))
 f243:=Tryz.func185.trans (Gv some (by kernel_rfl))
 f246:=Tryz.func211.trans (Gv some (by kernel_rfl))
 f283:=Tryz.func244.trans (Gv some (by kernel_rfl))
 f284:=Tryz.func245.trans (Gv some (by kernel_rfl))
 f285:=Tryz.func246.trans (Gv some (by kernel_rfl))
 f286:=Tryz.func247.trans (Gv some (by kernel_rfl))
 f317:=Tryz.func261.trans (Gv some (by kernel_rfl))
 f318:=Tryz.func262.trans (Gv some (by kernel_rfl))
 f319:=Tryz.func263.trans (Gv some (by kernel_rfl))
 f320:=Tryz.func264.trans (Gv some (by kernel_rfl))
 f337:=Tryz.func273.trans (Gv some (by kernel_rfl))
 f338:=Tryz.func274.trans (Gv some (by kernel_rfl))
 t0:=Tryz.underlying0
 a0:=Tryz.isAgg0
 z0:=Tryz.sizeOf0
 v0:=Tryz.zeroValue0
 t2:=Tryz.underlying2
 a2:=Tryz.isAgg2
 z2:=Tryz.sizeOf2
 v2:=Tryz.zeroValue2
 t3:=Tryz.underlying3
 a3:=Tryz.isAgg3
 z3:=Tryz.sizeOf3
 v3:=Tryz.zeroValue3
 t4:=Tryz.underlying4
 a4:=Tryz.isAgg4
 z4:=Tryz.sizeOf4
 v4:=Tryz.zeroValue4
 t5:=Tryz.underlying5
 a5:=Tryz.isAgg5
 z5:=Tryz.sizeOf5
 v5:=Tryz.zeroValue5
 t9:=Tryz.underlying9
 a9:=Tryz.isAgg9
 z9:=Tryz.sizeOf9
 v9:=Tryz.zeroValue9
 t20:=Tryz.underlying20
 a20:=Tryz.isAgg20
 z20:=Tryz.sizeOf20
 v20:=Tryz.zeroValue20
 t37:=Tryz.underlying282
 a37:=Tryz.isAgg282
 z37:=Tryz.sizeOf282
 v37:=Tryz.zeroValue282
 t46:=Tryz.underlying231
 a46:=Tryz.isAgg231
 z46:=Tryz.sizeOf231
 v46:=Tryz.zeroValue231
 t51:=Tryz.underlying277
 a51:=Tryz.isAgg277
 z51:=Tryz.sizeOf277
 v51:=Tryz.zeroValue277
 t53:=Tryz.underlying279
 a53:=Tryz.isAgg279
 z53:=Tryz.sizeOf279
 v53:=Tryz.zeroValue279
 t171:=Tryz.underlying280
 a171:=Tryz.isAgg280
 z171:=Tryz.sizeOf280
 v171:=Tryz.zeroValue280
 t173:=Tryz.underlying283
 a173:=Tryz.isAgg283
 z173:=Tryz.sizeOf283
 v173:=Tryz.zeroValue283
 t212:=Tryz.underlying297
 a212:=Tryz.isAgg297
 z212:=Tryz.sizeOf297
 v212:=Tryz.zeroValue297
 t213:=Tryz.underlying298
 a213:=Tryz.isAgg298
 z213:=Tryz.sizeOf298
 t232:=Tryz.underlying312
 a232:=Tryz.isAgg312
 z232:=Tryz.sizeOf312
 v232:=Tryz.zeroValue312
 t233:=Tryz.underlying313
 a233:=Tryz.isAgg313
 z233:=Tryz.sizeOf313
 v233:=Tryz.zeroValue313
 g17:=by kernel_rfl
 g18:=by kernel_rfl
 g19:=by kernel_rfl }
theorem Tryz.strconv_Itoa_small (i:Nat) (hi:i<100) (w:World): Calls Tryz.prog 147 #[.int .i64 i] w λe w'=>e = .returned (.string ⟨(Lib.decDigits i).toArray⟩)/\w'=w:=Any.strconv_Itoa_small Tryz.lays171 i hi w
def Tryz.lays144_ren:AQ:=⟨λ|144=>110|143=>149|219=>187|217=>212|225=>213|224=>214|267=>215|266=>248|314=>249|n=>n,λ|9=>9|4=>4|3=>3|5=>5|46=>231|146=>285|51=>277|n=>n,λ|1=>4|n=>n⟩
theorem Tryz.lays144:zuj Tryz.prog Tryz.lays144_ren:= {
 mixed:=by kernel_rfl
 f143:=Tryz.func149.trans (Gv some (by kernel_rfl))
 f144:=Tryz.func110.trans (Gv some (by kernel_rfl))
 f217:=Tryz.func212.trans (Gv some (by kernel_rfl))
 f219:=Tryz.func187.trans (Gv some (by kernel_rfl))
 f224:=Tryz.func214.trans (Gv some (by kernel_rfl))
 f225:=Tryz.func213.trans (Gv some (by kernel_rfl))
 f266:=Tryz.func248.trans (Gv some (by kernel_rfl))
 f267:=Tryz.func215.trans (Gv some (by kernel_rfl))
 f314:=Tryz.func249.trans (Gv some (by kernel_rfl))
 t3:=Tryz.underlying3
 a3:=Tryz.isAgg3
 z3:=Tryz.sizeOf3
 v3:=Tryz.zeroValue3
 t4:=Tryz.underlying4
 a4:=Tryz.isAgg4
 z4:=Tryz.sizeOf4
 v4:=Tryz.zeroValue4
 t5:=Tryz.underlying5
 a5:=Tryz.isAgg5
 z5:=Tryz.sizeOf5
 v5:=Tryz.zeroValue5
 t9:=Tryz.underlying9
 a9:=Tryz.isAgg9
 z9:=Tryz.sizeOf9
 v9:=Tryz.zeroValue9
 t46:=Tryz.underlying231
 a46:=Tryz.isAgg231
 z46:=Tryz.sizeOf231
 v46:=Tryz.zeroValue231
 t51:=Tryz.underlying277
 a51:=Tryz.isAgg277
 z51:=Tryz.sizeOf277
 v51:=Tryz.zeroValue277
 t146:=Tryz.underlying285
 a146:=Tryz.isAgg285
 z146:=Tryz.sizeOf285
 v146:=Tryz.zeroValue285
 g1:=by kernel_rfl }
theorem Tryz.strings_Contains (s sub:HT) (m:Int) (w:World) (hs:s.size<4294967281) (hm:w.cell? ⟨4,0,none⟩=some (.int .i64 m)): Calls Tryz.prog 110 #[.string s,.string sub] w λe w'=>e = .returned (.bool (Lib.contains s.data.toList sub.data.toList))/\w'=w:=Any.strings_Contains Tryz.lays144 s sub m w hs hm
end Go.Proofs
namespace Go.Proofs
open Go.Shelf
def Tryz.laysGw17_ren:AQ:=⟨λ|17=>109|15=>148|20=>186|n=>n,λ|9=>9|23=>188|4=>4|3=>3|0=>0|21=>21|n=>n,λ|n=>n⟩
theorem Tryz.laysGw17:zun Tryz.prog Tryz.laysGw17_ren:= {
 mixed:=by kernel_rfl
 f15:=Tryz.func148.trans (Gv some (by kernel_rfl))
 f17:=Tryz.func109.trans (Gv some (by kernel_rfl))
 f20:=Tryz.func186.trans (Gv some (by kernel_rfl))
 t0:=Tryz.underlying0
 a0:=Tryz.isAgg0
 z0:=Tryz.sizeOf0
 v0:=Tryz.zeroValue0
 i0:=by kernel_rfl
 t3:=Tryz.underlying3
 a3:=Tryz.isAgg3
 z3:=Tryz.sizeOf3
 v3:=Tryz.zeroValue3
 i3:=by kernel_rfl
 t4:=Tryz.underlying4
 a4:=Tryz.isAgg4
 z4:=Tryz.sizeOf4
 v4:=Tryz.zeroValue4
 i4:=by kernel_rfl
 t9:=Tryz.underlying9
 a9:=Tryz.isAgg9
 z9:=Tryz.sizeOf9
 v9:=Tryz.zeroValue9
 i9:=by kernel_rfl
 t21:=Tryz.underlying21
 a21:=Tryz.isAgg21
 z21:=Tryz.sizeOf21
 v21:=Tryz.zeroValue21
 i21:=by kernel_rfl
 t23:=Tryz.underlying188
 a23:=Tryz.isAgg188
 z23:=Tryz.sizeOf188
 v23:=Tryz.zeroValue188
 i23:=by kernel_rfl }
open Go.RowKit Go.Lib in
theorem Tryz.strings_ContainsFunc_grows (g:Nat) (lb:Array Value) (eg:∀args w,(callFunc g args).run Tryz.prog w = .ok (.enter g args) w) (p:Nat->Bool) (s:HT) (w:World) (hp:PredGrows Tryz.prog g lb p w): Calls Tryz.prog 109 #[.string s,.func (.func g) #[] lb] w λe w'=>e = .returned (.bool (decide (0<=zyE p true s)))/\Below w.heap.size w w':=Any.strings_ContainsFunc_grows Tryz.laysGw17 g lb eg p s w hp
end Go.Proofs
namespace Go.Fo
open Go
theorem Tv {s:HT}{i:Nat}(h:(s.get! i).toNat<128):AC s i=((s.get! i).toNat,1):=by unfold AC;simp only[DX];rw[Hv h]
theorem QU {s:HT}{i:Nat}(h:¬ (s.get! i).toNat<128):128<=(AC s i).1:=by
 unfold AC;simp only[DX];rw[IE h];repeat' split
 all_goals first
  |(simp only[Utf8.runeError];omega)
  |(rename_i h1;simp only[HC,HS]at h1;simp only;omega)
  |(simp only;omega)
theorem dO {p:Nat->Bool}(hp:∀r,128<=r->p r=true) (s:HT):∀(f pos:Nat),s.size<=pos+f->(0<=zym p true s f pos↔ ∃i,pos<=i/\i<s.size/\p (s.get! i).toNat=true)
 |0,pos,h=>by
  simp only[zym];constructor
  ·intro h;omega
  ·rintro⟨i,h1,h2,_⟩;omega
 |f+1,pos,h=>by
  simp only[zym];split
  ·rename_i hlt;split
   ·rename_i hq;constructor
    ·intro _;refine⟨pos,Nat.le_refl _,hlt,?_⟩;by_cases hb:(s.get! pos).toNat<128
     ·rw[Tv hb]at hq;exact hq
     ·exact hp _ (by omega)
    ·intro _;omega
   ·rename_i hq;have hb:(s.get! pos).toNat<128:=by
     rcases G4 (s.get! pos).toNat 128 with h' |h'
     ·exact h'
     ·exact Hu (hp _ (QU (by omega))) hq
    rw[Tv hb]at hq ⊢;rw[dO hp s f (pos+1) (by omega)];constructor
    ·rintro⟨i,h1,h2,h3⟩;exact⟨i,by omega,h2,h3⟩
    ·rintro⟨i,h1,h2,h3⟩;refine⟨i,?_,h2,h3⟩;rcases G4 pos i with h' |h'
     ·omega
     ·have:i=pos:=by omega
      subst this;exact Hu h3 hq
  ·rename_i hge;constructor
   ·intro h;omega
   ·rintro⟨i,h1,h2,_⟩;omega
theorem YK (s:IU UInt8) (i:Nat):(⟨s.toArray⟩:HT).get! i=s.getD i 0:=by show(s.toArray).getD i default=_;rw[Array.getD_eq_getD_getElem?,IU.getElem?_toArray,Es];rfl
theorem Nf {p:Nat->Bool}(hp:∀r,128<=r->p r=true) (s:IU UInt8):decide (0<=zyE p true ⟨s.toArray⟩)=s.any λc=>p c.toNat:=by
 rw[Ge,HS,Dr];unfold zyE;have hsz:(⟨s.toArray⟩:HT).size=s.length:=by show s.toArray.size=_;simp
 rw[dO hp _ _ _ (by omega),hsz];constructor
 ·rintro⟨i,_,h2,h3⟩;rw[YK]at h3;have:s.getD i 0=s[i]:=by rw[Es,Ff h2];rfl
  rw[this]at h3;exact⟨s[i],ED h2,h3⟩
 ·rintro⟨c,hc,h3⟩;obtain⟨i,hi,he⟩:=EF.1 hc;refine⟨i,GD _,hi,?_⟩;have:s.getD i 0=s[i]:=by rw[Es,Ff hi];rfl
  rw[YK,this,he];exact h3
end Go.Fo
namespace Go.Fo
open Go Go.Sx
def cut49:IU UInt8:=[97,98,99,100,101,102,103,104,105,106,107,108,109,110,111,112,113,114,115,116,117,118,119,120,121,122,48,49,50,51,52,53,54,55,56,57,95]
def words:IU (IU UInt8):=[[104,97,114,100],[115,111,102,116],[101,97,99,104],[97,108,108],[115,111,109,101],[108,101,97,115,116],[109,111,115,116],[116,114,117,101],[102,97,108,115,101],[97,116],[105,110],[116,101,97,99,104,101,115],[97,116,116,101,110,100,115],[97,119,97,121],[115,104,117,116],[100,97,121],[104,111,117,114],[104,111,117,115,101],[115,101,97,116,115],[115,105,122,101],[108,101,115,115,111,110],[115,108,111,116],[114,111,111,109],[112,101,114,115,111,110],[103,114,111,117,112]]
def qF (s:IU UInt8):Bool:= !(s==[]||decide (s.length>64)||words.contains s)&&(CP s cut49==[]&&decide (97<=(s.getD 0 0).toNat))
theorem sa {p:UInt8->Bool}:∀{l:IU UInt8},l.dropWhile p=[]↔ ∀x∈l,p x=true
 |[]=>by simp
 |a::l=>by
  rw[zxO];cases h:p a with
  |true=>simp[h,sa (l:=l)]
  |false=>simp[h]
theorem dN {p:UInt8->Bool}:∀{l:IU UInt8}{a:UInt8}{r:IU UInt8},l.dropWhile p=a::r->p a=false
 |[],_,_,h=>by simp at h
 |b::l,a,r,h=>by
  rw[zxO]at h;cases hb:p b with
  |true=>rw[hb]at h;exact dN (l:=l) h
  |false=>rw[hb]at h;simp at h;rw[←h.1];exact hb
theorem dM {s cs:IU UInt8}:CP s cs=[]↔ ∀b∈s,cs.contains b=true:=by
 unfold CP Lib.trimLeftS;rw[sa];unfold Lib.trimRightS;simp only[IU.mem_reverse];constructor
 ·intro h;have h0:s.reverse.dropWhile (λx=>cs.contains x)=[]:=by
   cases h1:s.reverse.dropWhile (λx=>cs.contains x)with
   |nil=>rfl
   |cons a r =>
    have h2:=dN h1;have h3:=h a (by rw[h1];simp);rw[h3]at h2;cases h2
  rw[sa]at h0;intro b hb;exact h0 b (by simpa using hb)
 ·intro h x hx;exact h x (by simpa using (IU.dropWhile_sublist _).subset hx)
theorem cut_all:∀n:Nat,n<256->cut49.contains (AB n)=(d6 (AB n)||WU (AB n)||decide ((AB n).toNat=95)):=by decide +kernel
theorem YJ (b:UInt8):cut49.contains b=(d6 b||WU b||decide (b.toNat=95)):=by have:=cut_all b.toNat b.toNat_lt;simpa using this
theorem stands_at:∀i:Nat,i<135->resS[i]? = some 32->(resS.drop (i+1)).takeWhile (· != 32)=[]∨words.contains ((resS.drop (i+1)).takeWhile (· != 32))=true:=by decide +kernel
theorem res_len:resS.length=135:=by decide
theorem stands_words:words.all (λs=>xa resS (32::s++[32]))=true:=by decide +kernel
theorem WT {s:IU UInt8}(hs:∀b∈s,b≠32) (h1:s≠[]):xa resS (32::s++[32])=words.contains s:=by
 cases hw:words.contains s with
 |true =>
  exact G3.1 stands_words s (by simpa using hw)
 |false =>
  cases h:xa resS (32::s++[32])with
  |false=>rfl
  |true =>
   obtain⟨i,hi,he⟩:=vz.1 h;have hi':i<135:=by have:=res_len;simp at hi;omega
   have hd:∃t,resS.drop i=32::(s++[32]++t):=by refine⟨(resS.drop i).drop (32::s++[32]).length,?_⟩;have:=CD (32::s++[32]).length (resS.drop i);rw[he]at this;rw[←this];simp
   obtain⟨t,ht⟩:=hd;have h32:resS[i]? = some 32:=by
    have:(resS.drop i)[0]? = some 32:=by rw[ht];rfl
    simpa using this
   have hd1:resS.drop (i+1)=s++[32]++t:=by
    have:(resS.drop i).tail=s++[32]++t:=by rw[ht];rfl
    rw[←this];simp
   have htw:(resS.drop (i+1)).takeWhile (· != 32)=s:=by rw[hd1,DN,IU.takeWhile_append_of_pos (λb hb=>by simpa using hs b hb)];simp
   rcases stands_at i hi' h32 with h3|h3
   ·rw[htw]at h3;exact Hu h3 h1
   ·rw[htw,hw]at h3;cases h3
theorem R8 (s:IU UInt8):qF s=yw s:=by
 have hnil:s=[]->qF s=yw s:=by rintro rfl;rfl
 rcases EA (s=[])with h0|h0
 ·exact hnil h0
 have hlen:1<=s.length:=by
  cases s with
  |nil=>exact Hu rfl h0
  |cons a r=>simp
 have hA:vy s=(decide (s.length<=64)&&(CP s cut49==[]&&decide (97<=(s.getD 0 0).toNat))):=by
  rw[Ge];simp only[vy,HC,G3,Fz,HS,beq_iff_eq,dM];constructor
  ·rintro⟨⟨h1,h2⟩,h3⟩;refine⟨h3,λb hb=>?_,?_⟩
   ·obtain⟨i,hi,rfl⟩:=EF.1 hb;have:=h1 i hi;rw[Es,Ff hi,FT]at this;rw[YJ];unfold oH at this;cases hl:d6 s[i]with
    |true=>rfl
    |false =>
     rw[hl]at this;simp only[FD,HC]at this ⊢;exact this.2
   ·have:=h1 0 (by omega);unfold oH d6 at this;simp only[ne_eq,not_true_eq_false,decide_false,Dp,Bool.or_false,HC,HS]at this;exact this.1
  ·rintro⟨h1,h2,h3⟩;refine⟨⟨λi hi=>?_,hlen⟩,h1⟩;rw[Es,Ff hi,FT];have h4:=h2 s[i] (ED hi);rw[YJ]at h4;unfold oH;cases hl:d6 s[i]with
   |true=>rfl
   |false =>
    rw[hl]at h4;simp only[FD,HC]at h4 ⊢;refine⟨?_,h4⟩;simp only[ne_eq,HS];rintro rfl;rw[Es,Ff hi,FT]at h3;unfold d6 at hl;unfold WU at h4;simp only[F9,HC,HS,FH,HH]at h4 hl;omega
 have hB:(s==[])=false:=by simpa using h0
 cases hw:vy s with
 |false =>
  rw[yw,hw,Dp];rw[hw]at hA;unfold qF;rw[hB,FD];cases hl:decide (s.length<=64)with
  |true =>
   rw[hl,EB]at hA;rw[←hA,C8]
  |false =>
   have:decide (s.length>64)=true:=by simp at hl ⊢;omega
   rw[this];rfl
 |true =>
  rw[yw,hw,EB];rw[hw]at hA;have h1:=hA.symm;simp only[HC]at h1;obtain⟨h2,h3⟩:=h1;have hn32:∀b∈s,b≠32:=by
   have h4:CP s cut49=[]:=by simpa using h3.1
   rw[dM]at h4;intro b hb e;have:=h4 b hb;rw[e]at this;revert this;decide
  rw[WT hn32 h0];unfold qF;have h5:decide (s.length>64)=false:=by simp at h2 ⊢;omega
  rw[hB,h5,h3.1,h3.2];simp
end Go.Fo
namespace Go.Fo
open Go Go.Sx Go.Proofs
structure Maps where
 ar:IU (D×D)
 si:IU (D×D)
 du:IU (D×D)
 re:IU (D×D)
 nd:Bool
 ak:IU (D×D)
 es:IU (D×D)
 ea:IU (D×D)
def vk (l:IU (Int×Int)):IU D:=(l.map λp=>[IP .i64 p.1,IP .i64 p.2]).flatten
def takL:IU (Int×Int):=[(0,0),(0,0),(0,0),(2,6),(2,8),(3,7),(3,8),(1,8)]
def askL:IU (Int×Int):=[(0,0),(0,0),(0,0),(1,2),(1,3),(4,1),(5,1),(4,2),(3,2)]
def GG (M:Maps):Nat->IQ (IU D)
 |0=>some [.gmap M.ak]
 |1=>some [.gmap M.es]
 |2=>some [.gmap M.ea]
 |3=>some (vk askL)
 |5=>some [.gmap M.ar]
 |6=>some [.gmap M.si]
 |7=>some (vk takL)
 |8=>some [.gmap M.re]
 |_=>none
def arL:IU (Int×Int):=[(1,0),(2,0),(3,0),(4,0),(5,0),(6,0),(7,0),(8,0),(9,0),(10,1),(11,2),(12,2),(13,2),(14,1),(15,1),(16,1),(17,1)]
def duL:IU (Int×Int):=[(1,2),(2,1),(11,12),(12,11),(14,15),(15,14),(16,17),(17,16)]
def siL:IU (IU UInt8×IU UInt8):=[([33,61],[61]),([60],[62,61]),([60,61],[62]),([61],[33,61]),([62],[60,61]),([62,61],[60])]
structure Maps.Ok (M:Maps):Prop where
 arA:(M.ar.all λkv=>sameKind (.int .i64 0) kv.1&&Ft (.int .i64) kv.2)=true
 siA:(M.si.all λkv=>sameKind (.str []) kv.1&&Ft .str kv.2)=true
 duA:(M.du.all λkv=>sameKind (.int .i64 0) kv.1&&Ft (.int .i64) kv.2)=true
 reA:(M.re.all λkv=>sameKind (.str []) kv.1&&Ft .bool kv.2)=true
 arG:∀k,zT M.ar (.int .i64 k)=(arL.lookup k).map (.int .i64)
 siG:∀s,zT M.si (.str s)=(siL.lookup s).map .str
 duG:∀k,zT M.du (.int .i64 k)=(duL.lookup k).map (.int .i64)
 reG:∀s,zT M.re (.str s)=if words.contains s then some (.bool true)else none
theorem gO (s:IU UInt8) (x:D):sameKind (.str s) x=sameKind (.str []) x:=by cases x<;>rfl
theorem mG (k:Int) (x:D):sameKind (.int .i64 k) x=sameKind (.int .i64 0) x:=by cases x<;>rfl
section
variable {G:Nat->IQ (IU D)}{M:Maps}
theorem KT (s:IU UInt8) (hs:s.length<=9223372036854775807):IK Tryz.prog G 251 [.str s,.str cut49] (· = [.str (CP s cut49)]):=by refine IK.of_calls (v:= .string ⟨(CP s cut49).toArray⟩) (λI J w=>R1.str _) λc w vs hρ hr hvs=>?_;obtain⟨v1,vs1,rfl,h1,h2⟩:=hvs.cons_right;obtain⟨v2,vs2,rfl,h3,h4⟩:=h2.cons_right;have:=h4.nil_right;subst this;cases h1;cases h3;have h:=Any.strings_Trim_laid Tryz.lays160 (by kernel_rfl) ⟨s.toArray⟩ ⟨cut49.toArray⟩ w (by rw[ma];exact hs) (by decide) (ascii_of_all (by decide));exact h
abbrev Tu (a:IU UInt8):Bool:=a==Gx (Gy (Gu #[]))
abbrev QT (a:IU UInt8):Bool:=bif Tu a then true else decide ((↑(IR a):Int)>64)
abbrev QS (a:IU UInt8) (b:Maps):Bool:=bif QT a then true else E8 (IB (zT (Maps.re b) (HW a)) (IL false))
theorem Lu (hM:M.Ok) (s:IU UInt8) (hs:s.length<=9223372036854775807):IK Tryz.prog (GG M) 225 [.str s] (· = [.bool (yw s)]):=by
 rw[←R8];refine zq Tryz.func225 ⟨_,rfl⟩ ?_;apply @z7 _ ((QT s=false->(F0 (Maps.re M) λ(kv:D×D)=>sameKind (HW s) (Hw kv)&&Ft EL (HL kv))=true)/\(QS s M=true->[IL false]=[IL (qF s)])/\(QS s M=false->IK Tryz.prog (GG M) 251 [HW s,.str (Gx (Gy (Gu #[(97:UInt8),(98:UInt8),(99:UInt8),(100:UInt8),(101:UInt8),(102:UInt8),(103:UInt8),(104:UInt8),(105:UInt8),(106:UInt8),(107:UInt8),(108:UInt8),(109:UInt8),(110:UInt8),(111:UInt8),(112:UInt8),(113:UInt8),(114:UInt8),(115:UInt8),(116:UInt8),(117:UInt8),(118:UInt8),(119:UInt8),(120:UInt8),(121:UInt8),(122:UInt8),(48:UInt8),(49:UInt8),(50:UInt8),(51:UInt8),(52:UInt8),(53:UInt8),(54:UInt8),(55:UInt8),(56:UInt8),(57:UInt8),(95:UInt8)])))] λ(rs:IU D)=>∃(s_1:IU UInt8),rs = [HW s_1]/\(Tu s_1=true->(0:Int)<=0/\IJ 0<IR s)/\[IL (bif Tu s_1 then decide ((↑(B9 (DF s (IJ 0) (0:UInt8))):Int)>=97)else false)]=[IL (qF s)]))
 ·kernel_rfl
 delta QT Tu QS;have hr:E8 (IB (zT (Maps.re M) (HW s)) (IL false))=words.contains s:=by rw[hM.reG];cases words.contains s<;>rfl
 have e0:Gx (Gy { data:= #[] })=([]:IU UInt8):=rfl;have e1:decide ((s.length:Int)>64)=decide (s.length>64):=by rw[Ge];simp;omega
 simp only[hr,e0,e1,zH,gO s];refine⟨λ_=>hM.reA,λh=>?_,λh=>?_⟩
 ·simp only[qF,h,El,Dp]
 ·refine(KT s hs).mono ?_;rintro rs rfl;refine⟨_,rfl,λh2=>⟨by omega,?_⟩,?_⟩
  ·show 0<s.length;cases s with
   |nil=>simp at h
   |cons a r=>simp
  ·simp only[qF,h,Aa,EB,zn];congr 3;rw[Ge];simp;omega
theorem KS (hM:M.Ok) (t:Tm) (hs:t.name.length<=9223372036854775807):IK Tryz.prog (GG M) 222 [t.d] (· = [.bool (yL t)]):=by
 unfold Hq;refine zq Tryz.func222 ⟨_,rfl⟩ ?_;apply @z7 _ (((Gh t==1)=true->IK Tryz.prog (GG M) 226 [IP .i64 (FO t)] λ(rs:IU D)=>∃(b:Bool),rs=[IL b]/\[IL (bif GK t==Gx (Gy (Gu #[]))then b else false)]=[IL (yL t)])/\((Gh t==1)=false->IK Tryz.prog (GG M) 225 [HW (GK t)] λ(rs:IU D)=>∃(b:Bool),rs=[IL b]/\[IL (bif bif bif decide (Gh t>=2)then decide (Gh t<=7)else false then b else false then FO t==0 else false)]=[IL (yL t)]))
 ·kernel_rfl
 have e0:Gx (Gy { data:= #[] })=([]:IU UInt8):=rfl;refine⟨λh=>?_,λh=>?_⟩
 ·refine(L6 t.n).mono ?_;rintro rs rfl;refine⟨_,rfl,?_⟩;simp only[beq_iff_eq]at h;simp only[yL,Hv h,zn,e0]
 ·refine(Lu hM t.name hs).mono ?_;rintro rs rfl;refine⟨_,rfl,?_⟩;have h' :¬ t.kind=1:=by simpa using h
  simp only[yL,IE h',zn,ge_iff_le]
def h31 (f:Fm):IU Box:=[.cells 85 (dP f)]
def qE (f:Fm) (t:Tm):Bool:= !yL t||(f.kind != 9&&t.kind != 2)
abbrev qD (a:Fm):IU Box:=[Hl 85 [.d (.int .i64 (Hj a)),.d (.str (HE a)),.d (.int .i64 (HB a)),.d (.sl (IT Hq (HM a))),.d (.sl (IT ID (HN a))),.d (.sl (IT HV (Hz a)))]]
theorem KR (hM:M.Ok) (f:Fm) (t:Tm) (hs:t.name.length<=9223372036854775807):HY Tryz.prog (GG M) 221 [.d t.d,.ptr 0 0] (h31 f) (λrs H'=>rs=[.bool (qE f t)]/\H'=h31 f):=by
 have h46:=KS hM t hs;unfold Hq at h46 ⊢;refine zB Tryz.func221 rfl ⟨_,_,rfl,rfl⟩ ?_;apply @z7 _ (IK Tryz.prog (GG M) 222 [Hd [.int .i64 (Gh t),.str (GK t),.int .i64 (FO t)]] λ(rs:IU D)=>∃(b:Bool),rs=[IL b]/\[IL (bif !b then true else bif Hj f != 9 then Gh t != 2 else false)]=[IL (qE f t)]/\qD f=qD f)
 ·kernel_rfl
 delta qD;refine h46.mono ?_;rintro rs rfl;refine⟨_,rfl,?_,rfl⟩;simp only[qE,zH,zn]
abbrev YI (a:Nat) (b:IU Tm) (c:Fm):Prop:=a<=IR b/\Fk (HZ a b) (qE c)=false
abbrev Tt (a:IU Tm) (b:Nat):D:=zr [HX .i64,HI,HX .i64] (IT Hq a) (IJ (b:Int))
abbrev dL (a:Int) (b:IU UInt8) (c:Int) (d:IU D) (e:IU D) (f:IU D):IU Box:=[Hl 85 [.d (.int .i64 a),.d (.str b),.d (.int .i64 c),.d (.sl d),.d (.sl e),.d (.sl f)]]
theorem KQ (hM:M.Ok) (f:Fm) (ts:IU Tm) (hl:ts.length<4611686018427387904) (hs:∀t∈ts,t.name.length<=9223372036854775807): HY Tryz.prog (GG M) 250 [.d (.sl (ts.map Hq)),.clo 221 [] [.ptr 0 0]] (h31 f) (λrs H'=>(∃r:Int,rs=[.int .i64 r]/\decide (r>=0)=ts.any (qE f))/\H'=h31 f):=by
 refine zZ (LL [(2,ze (α:=Nat) Tryz.prog (GG M) L0 1 (z8 (z6 Tryz.f250) 0) [0,1,7] (λi=>i<=ts.length/\(ts.take i).any (qE f)=false) (λi=>ts.length - i) (λi=>[(8,.d (.int .i64 i))]) (λH _=>H))]) Tryz.func250 rfl ⟨_,_,⟨if ts.any (qE f)then 0 else -1,rfl,by cases ts.any (qE f)<;>rfl⟩,rfl⟩ (zt zz) ?_;apply @z7 _ (∃(x0:Nat),YI x0 ts f/\((IT Hq ts=IT Hq ts/\Gg 221 [] [IA 0 0]=Gg 221 [] [IA 0 0]/\(↑(IR (IT Hq ts)):Int)=(↑(IR (IT Hq ts)):Int)/\(0:Int)=(x0:Int)/\IN)/\(Hj f=Hj f/\HE f=HE f/\HB f=HB f/\IT Hq (HM f)=IT Hq (HM f)/\IT ID (HN f)=IT ID (HN f)/\IT HV (Hz f)=IT HV (Hz f)/\IN)/\IN)/\∀(x:Nat),YI x ts f->(decide ((x:Int)<(↑(IR (IT Hq ts)):Int))=true->((0:Int)<=(x:Int)/\(IT Hq ts)[IJ (x:Int)]? = some (Tt ts x))/\HY Tryz.prog (GG M) 221 [IH (Tt ts x),.ptr 0 0] (qD f) λ(rs:IU D) (H':IU Box)=>∃(b:Bool),rs=[IL b]/\∃(n:Int)(s:IU UInt8)(n_1:Int)(l:IU D)(l_1:IU D)(l_2:IU D),H'=dL n s n_1 l l_1 l_2/\(b=true->(∃(r:Int),[IP .i64 (x:Int)]=[IP .i64 r]/\decide (r>=0)=Fk ts (qE f))/\dL n s n_1 l l_1 l_2=qD f)/\(b=false->∃(y:Nat),YI y ts f/\IR ts - y<IR ts - x/\(IT Hq ts=IT Hq ts/\Gg 221 [] [IA 0 0]=Gg 221 [] [IA 0 0]/\(↑(IR (IT Hq ts)):Int)=(↑(IR (IT Hq ts)):Int)/\Hr .i64 ((x:Int)+1)=(y:Int)/\IN)/\(n=Hj f/\s=HE f/\n_1=HB f/\l=IT Hq (HM f)/\l_1=IT ID (HN f)/\l_2=IT HV (Hz f)/\IN)/\IN))/\(decide ((x:Int)<(↑(IR (IT Hq ts)):Int))=false->(∃(r:Int),[IP .i64 (-1)]=[IP .i64 r]/\decide (r>=0)=Fk ts (qE f))/\qD f=qD f))
 ·kernel_rfl
 delta YI Tt qD dL;refine⟨0,⟨by omega,rfl⟩,⟨⟨rfl,rfl,rfl,rfl,trivial⟩,⟨rfl,rfl,rfl,rfl,rfl,rfl,trivial⟩,trivial⟩,λi hi=>⟨λhlt=>?_,λhge=>?_⟩⟩
 ·simp only[H4,HS]at hlt;obtain⟨z,hz,hm⟩:=zw (l:=ts) (x:=i) (by omega);rw[HF,uS hz];refine⟨⟨by omega,by simp[hz]⟩,?_⟩;refine(KR hM f z (hs z hm)).mono ?_;rintro rs H' ⟨rfl,rfl⟩;refine⟨_,rfl,_,_,_,_,_,_,rfl,λhb=>⟨⟨_,rfl,?_⟩,rfl⟩,λhb=>⟨i+1,⟨by omega,?_⟩,by omega,⟨rfl,rfl,rfl,?_,trivial⟩,⟨rfl,rfl,rfl,rfl,rfl,rfl,trivial⟩,trivial⟩⟩
  ·have:ts.any (qE f)=true:=Dr.2 ⟨z,hm,hb⟩;rw[this];simp
  ·rw[GN,hz,B2,hi.2];simpa using hb
  ·rw[zx (by omega) (by omega)];simp
 ·simp only[H4,HH]at hge;have h2:=hi.2;rw[Gs (by omega)]at h2;exact⟨⟨_,rfl,by rw[h2];rfl⟩,rfl⟩
theorem KP (hM:M.Ok) (f:Fm) (ts:IU Tm) (hl:ts.length<4611686018427387904) (hs:∀t∈ts,t.name.length<=9223372036854775807): HY Tryz.prog (GG M) 223 [.d (.sl (ts.map Hq)),.clo 221 [] [.ptr 0 0]] (h31 f) (λrs H'=>rs=[.bool (ts.any (qE f))]/\H'=h31 f):=by
 refine zB Tryz.func223 rfl ⟨_,_,rfl,rfl⟩ ?_;apply @z7 _ (HY Tryz.prog (GG M) 250 [IH (.sl (IT Hq ts)),.clo 221 [] [IA 0 0]] (qD f) λ(rs:IU D) (H':IU Box)=>∃(n:Int),rs=[IP .i64 n]/\∃(n_1:Int)(s:IU UInt8)(n_2:Int)(l:IU D)(l_1:IU D)(l_2:IU D),H'=dL n_1 s n_2 l l_1 l_2/\[IL (decide (n>=0))]=[IL (Fk ts (qE f))]/\dL n_1 s n_2 l l_1 l_2=qD f)
 ·kernel_rfl
 delta qD dL YI Tt;refine(KQ hM f ts hl hs).mono ?_;rintro rs H' ⟨⟨r,rfl,hr⟩,rfl⟩;exact⟨r,rfl,_,_,_,_,_,_,rfl,by rw[hr],rfl⟩
def oG (b:Bd):Bool:= !bindB b
theorem KO (hM:M.Ok) (b:Bd) (hs:b.name.length<=9223372036854775807):IK Tryz.prog (GG M) 224 [b.d] (· = [.bool (oG b)]):=by
 unfold ID;refine zq Tryz.func224 ⟨_,rfl⟩ ?_;apply @z7 _ (IK Tryz.prog (GG M) 225 [HW (DC b)] λ(rs:IU D)=>∃(b_1:Bool),rs=[IL b_1]/\[IL (bif bif !b_1 then true else decide (Cr b<1)then true else decide (Cr b>7))]=[IL (oG b)])
 ·kernel_rfl
 refine(Lu hM b.name hs).mono ?_;rintro rs rfl;refine⟨_,rfl,?_⟩;simp only[oG,bindB,zH];have e1:decide (b.sort<1) = !decide (1<=b.sort):=by rw[Ge];simp
 have e2:decide (b.sort>7) = !decide (b.sort<=7):=by rw[Ge];simp
 rw[e1,e2];cases yw b.name<;>cases decide (1<=b.sort)<;>cases decide (b.sort<=7)<;>rfl
abbrev Ts (a:Nat) (b:IU Bd):Prop:=a<=IR b/\Fk (HZ a b) oG=false
abbrev QR (a:IU Bd) (b:Nat):D:=zr [HI,HX .i64] (IT ID a) (IJ (b:Int))
theorem KN (hM:M.Ok) (bs:IU Bd) (hl:bs.length<4611686018427387904) (hs:∀t∈bs,t.name.length<=9223372036854775807): IK Tryz.prog (GG M) 188 [.sl (bs.map ID),.fn 224] (λrs=>∃r:Int,rs=[.int .i64 r]/\decide (r>=0)=bs.any oG):=by
 refine zu (LL [(2,ze (α:=Nat) Tryz.prog (GG M) L0 0 (z8 (z6 Tryz.f188) 0) [0,1,7] (λi=>i<=bs.length/\(bs.take i).any oG=false) (λi=>bs.length - i) (λi=>[(8,.d (.int .i64 i))]) (λH _=>H))]) Tryz.func188 ⟨_,if bs.any oG then 0 else -1,rfl,by cases bs.any oG<;>rfl⟩ (zt zz) ?_;apply @z7 _ (∃(x0:Nat),Ts x0 bs/\((IT ID bs=IT ID bs/\IH (.fn 224)=IH (.fn 224)/\(↑(IR (IT ID bs)):Int)=(↑(IR (IT ID bs)):Int)/\(0:Int)=(x0:Int)/\IN)/\IN)/\∀(x:Nat),Ts x bs->(decide ((x:Int)<(↑(IR (IT ID bs)):Int))=true->((0:Int)<=(x:Int)/\(IT ID bs)[IJ (x:Int)]? = some (QR bs x))/\IK Tryz.prog (GG M) 224 [QR bs x] λ(rs:IU D)=>∃(b:Bool),rs=[IL b]/\(b=true->∃(r:Int),[IP .i64 (x:Int)]=[IP .i64 r]/\decide (r>=0)=Fk bs oG)/\(b=false->∃(y:Nat),Ts y bs/\IR bs - y<IR bs - x/\(IT ID bs=IT ID bs/\IH (.fn 224)=IH (.fn 224)/\(↑(IR (IT ID bs)):Int)=(↑(IR (IT ID bs)):Int)/\Hr .i64 ((x:Int)+1) = (y:Int)/\IN)/\IN))/\(decide ((x:Int)<(↑(IR (IT ID bs)):Int))=false->∃(r:Int),[IP .i64 (-1)]=[IP .i64 r]/\decide (r>=0)=Fk bs oG))
 ·kernel_rfl
 delta Ts QR;refine⟨0,⟨by omega,rfl⟩,by simp,λi hi=>⟨λhlt=>?_,λhge=>?_⟩⟩
 ·simp only[H4,HS]at hlt;obtain⟨z,hz,hm⟩:=zw (l:=bs) (x:=i) (by omega);rw[HF,w6 hz];refine⟨⟨by omega,by simp[hz]⟩,?_⟩;refine(KO hM z (hs z hm)).mono ?_;rintro rs rfl;refine⟨_,rfl,λhb=>⟨_,rfl,?_⟩,λhb=>⟨i+1,⟨by omega,?_⟩,by omega,?_⟩⟩
  ·have:bs.any oG=true:=Dr.2 ⟨z,hm,hb⟩;rw[this];simp
  ·rw[GN,hz,B2,hi.2];simpa using hb
  ·rw[zx (by omega) (by omega)];simp
 ·simp only[H4,HH]at hge;have h2:=hi.2;rw[Gs (by omega)]at h2;exact⟨_,rfl,by rw[h2];rfl⟩
theorem KM (hM:M.Ok) (bs:IU Bd) (hl:bs.length<4611686018427387904) (hs:∀t∈bs,t.name.length<=9223372036854775807): IK Tryz.prog (GG M) 152 [.sl (bs.map ID),.fn 224] (· = [.bool (bs.any oG)]):=by
 refine zq Tryz.func152 ⟨_,rfl⟩ ?_;apply @z7 _ (IK Tryz.prog (GG M) 188 [II (IT ID bs),.fn 224] λ(rs:IU D)=>∃(n:Int),rs=[IP .i64 n]/\[IL (decide (n>=0))]=[IL (Fk bs oG)])
 ·kernel_rfl
 refine(KN hM bs hl hs).mono ?_;rintro rs ⟨r,rfl,hr⟩;exact⟨r,rfl,by rw[hr]⟩
def Nd (f:Fm):Bool := !(arL.lookup f.kind).isSome||((f.l.length:Int) != (arL.lookup f.kind).getD 0)||(((f.ts.length:Int) != 0)&& !zC f.kind)||(((f.bs.length:Int) != 0)&& !yb f.kind)||((f.n != 0)&& !xI f.kind)||((!(f.name==[]))&&f.kind != 9)
def Nc (f:Fm):Bool:=f.kind==9&&(siL.lookup f.name).getD []==[]
def dK (f:Fm):Bool:=if zC f.kind then((f.ts.length:Int)==2)&& !f.ts.any (qE f)else if yb f.kind then decide ((f.bs.length:Int)>0)&&decide ((f.bs.length:Int)<=6)&& !f.bs.any oG&&bV f.n else true
theorem QQ (bs:IU Bd):(!bs.any oG)=bs.all bindB:=by
 induction bs with
 |nil=>rfl
 |cons b r ih=>simp only[E5,D8,Bool.not_or,ih,oG,Bool.not_not]
theorem R9 (s:IU UInt8):((siL.lookup s).getD []==[]) = !qG s:=by
 unfold siL qG;simp only[Bz];by_cases h1:s=[33,61]
 ·subst h1;rfl
 by_cases h2:s=[60]
 ·subst h2;rfl
 by_cases h3:s=[60,61]
 ·subst h3;rfl
 by_cases h4:s=[61]
 ·subst h4;rfl
 by_cases h5:s=[62]
 ·subst h5;rfl
 by_cases h6:s=[62,61]
 ·subst h6;rfl
 simp only[beq_eq_false_iff_ne.2 h1,beq_eq_false_iff_ne.2 h2,beq_eq_false_iff_ne.2 h3,beq_eq_false_iff_ne.2 h4,beq_eq_false_iff_ne.2 h5,beq_eq_false_iff_ne.2 h6];rfl
end
theorem M1 {α:Type}{l:IU α}(h:l.length=2):∃x y,l=[x,y]:=by
 match l,h with
 |[x,y],_=>exact⟨x,y,rfl⟩
theorem QP (f:Fm) (a b:Tm):(!([a,b].any (qE f)))=(yL a&&yL b&&(f.kind==9||a.kind==2&&b.kind==2)):=by simp only[E5,BJ,qE,bne];cases yL a<;>cases yL b<;>cases (f.kind==9)<;>cases (a.kind==2)<;>cases (b.kind==2)<;>rfl
theorem Rz (f:Fm):(!Nd f&& !Nc f&&dK f)=x7 f:=by
 have hodd:=QP f;unfold Nd Nc dK x7 wY vl;simp only[R9,QQ];generalize qE f=od at *;generalize f.kind=k at *;generalize f.name=s;generalize f.n=n;generalize f.ts=ts;generalize f.bs=bs;generalize f.l=l;have hc:k=1∨k=2∨(k=3∨k=4∨k=5∨k=6∨k=7∨k=8)∨k=9∨k=10∨(k=11∨k=12∨k=13)∨(k=14∨k=15)∨(k=16∨k=17)∨(k<1∨17<k):=by omega
 have e0:∀{α:Type}(l:IU α),((l.length:Int) != 0) = !l.isEmpty:=λl=>by cases l<;>rfl
 rcases hc with hk|hk|hk|hk|hk|hk|hk|hk|hk
 ·subst hk;have h1:arL.lookup 1=some 0:=rfl;have h2:zC 1=false:=rfl;have h3:yb 1=false:=rfl;have h4:xI 1=false:=rfl;have h5:yi 1=0:=rfl;simp only[h1,h2,h3,h4,h5,e0,Dd,FT,bne];cases ts<;>cases bs<;>cases (n==0)<;>cases (s==[])<;>cases ((l.length:Int)==0)<;>rfl
 ·subst hk;have h1:arL.lookup 2=some 0:=rfl;have h2:zC 2=false:=rfl;have h3:yb 2=false:=rfl;have h4:xI 2=false:=rfl;have h5:yi 2=0:=rfl;simp only[h1,h2,h3,h4,h5,e0,Dd,FT,bne];cases ts<;>cases bs<;>cases (n==0)<;>cases (s==[])<;>cases ((l.length:Int)==0)<;>rfl
 ·have h1:arL.lookup k=some 0:=by rcases hk with rfl|rfl|rfl|rfl|rfl|rfl<;>rfl
  have h2:zC k=true:=by rcases hk with rfl|rfl|rfl|rfl|rfl|rfl<;>rfl
  have h3:yb k=false:=by rcases hk with rfl|rfl|rfl|rfl|rfl|rfl<;>rfl
  have h4:xI k=false:=by rcases hk with rfl|rfl|rfl|rfl|rfl|rfl<;>rfl
  have h5:yi k=0:=by rcases hk with rfl|rfl|rfl|rfl|rfl|rfl<;>rfl
  have h9:(k==9)=false:=by rcases hk with rfl|rfl|rfl|rfl|rfl|rfl<;>rfl
  have h9' :¬ k=9:=by omega
  simp only[h1,h2,h3,h4,h5,e0,Dd,FT,bne,if_true,h9,h9',if_false];rcases EA (ts.length=2)with ht|ht
  ·obtain⟨a,b,rfl⟩:=M1 ht;rw[hodd];simp only[h9];have e1:(([a,b]:IU Tm).length:Int)=2:=rfl;have ta:xh [a,b] 0=a:=rfl;have tb:xh [a,b] 1=b:=rfl;simp only[e1,ta,tb,h9',if_false];cases bs<;>cases (n==0)<;>cases (s==[])<;>cases ((l.length:Int)==0)<;>cases yL a<;>cases yL b<;>cases (a.kind==2)<;>cases (b.kind==2)<;>rfl
  ·have e1:((ts.length:Int)==2)=false:=by simp;omega
   simp only[e1,ht,decide_false,Dp,C8]
 ·subst hk;have h1:arL.lookup 9=some 0:=rfl;have h2:zC 9=true:=rfl;have h3:yb 9=false:=rfl;have h4:xI 9=false:=rfl;have h5:yi 9=0:=rfl;have h9:((9:Int)==9)=true:=rfl;simp only[h1,h2,h3,h4,h5,e0,Dd,FT,bne,if_true,h9];rcases EA (ts.length=2)with ht|ht
  ·obtain⟨a,b,rfl⟩:=M1 ht;rw[hodd];simp only[h9];have e1:(([a,b]:IU Tm).length:Int)=2:=rfl;have ta:xh [a,b] 0=a:=rfl;have tb:xh [a,b] 1=b:=rfl;simp only[e1,ta,tb];cases bs<;>cases (n==0)<;>cases (s==[])<;>cases ((l.length:Int)==0)<;>cases yL a<;>cases yL b<;>cases qG s<;>rfl
  ·have e1:((ts.length:Int)==2)=false:=by simp;omega
   simp only[e1,ht,decide_false,Dp,C8]
 ·subst hk;have h1:arL.lookup 10=some 1:=rfl;have h2:zC 10=false:=rfl;have h3:yb 10=false:=rfl;have h4:xI 10=false:=rfl;have h5:yi 10=1:=rfl;simp only[h1,h2,h3,h4,h5,e0,Dd,FT,bne];cases ts<;>cases bs<;>cases (n==0)<;>cases (s==[])<;>cases ((l.length:Int)==1)<;>rfl
 ·have h1:arL.lookup k=some 2:=by rcases hk with rfl|rfl|rfl<;>rfl
  have h2:zC k=false:=by rcases hk with rfl|rfl|rfl<;>rfl
  have h3:yb k=false:=by rcases hk with rfl|rfl|rfl<;>rfl
  have h4:xI k=false:=by rcases hk with rfl|rfl|rfl<;>rfl
  have h5:yi k=2:=by rcases hk with rfl|rfl|rfl<;>rfl
  have h9:(k==9)=false:=by rcases hk with rfl|rfl|rfl<;>rfl
  simp only[h1,h2,h3,h4,h5,e0,Dd,FT,bne,h9];cases ts<;>cases bs<;>cases (n==0)<;>cases (s==[])<;>cases ((l.length:Int)==2)<;>rfl
 ·have h1:arL.lookup k=some 1:=by rcases hk with rfl|rfl<;>rfl
  have h2:zC k=false:=by rcases hk with rfl|rfl<;>rfl
  have h3:yb k=true:=by rcases hk with rfl|rfl<;>rfl
  have h4:xI k=false:=by rcases hk with rfl|rfl<;>rfl
  have h5:yi k=1:=by rcases hk with rfl|rfl<;>rfl
  have h9:(k==9)=false:=by rcases hk with rfl|rfl<;>rfl
  have e1:decide ((bs.length:Int)>0)=decide (1<=bs.length):=by rw[Ge];simp;omega
  have e2:decide ((bs.length:Int)<=6)=decide (bs.length<=6):=by rw[Ge];simp;omega
  have e3:(n==0)=true->bV n=true:=λh=>by simp at h;subst h;rfl
  rw[e1,e2];simp only[h1,h2,h3,h4,h5,Dd,FT,bne,h9,if_true];generalize ((bs.length:Int)==0)=z0;cases hn:(n==0)with
  |true =>
   rw[e3 hn];cases z0<;>cases ts<;>cases (s==[])<;>cases ((l.length:Int)==1)<;>cases bs.all bindB<;>cases decide (1<=bs.length)<;>cases decide (bs.length<=6)<;>rfl
  |false =>
   cases z0<;>cases ts<;>cases (s==[])<;>cases ((l.length:Int)==1)<;>cases bs.all bindB<;>cases decide (1<=bs.length)<;>cases decide (bs.length<=6)<;>rfl
 ·have h1:arL.lookup k=some 1:=by rcases hk with rfl|rfl<;>rfl
  have h2:zC k=false:=by rcases hk with rfl|rfl<;>rfl
  have h3:yb k=true:=by rcases hk with rfl|rfl<;>rfl
  have h4:xI k=true:=by rcases hk with rfl|rfl<;>rfl
  have h5:yi k=1:=by rcases hk with rfl|rfl<;>rfl
  have h9:(k==9)=false:=by rcases hk with rfl|rfl<;>rfl
  have e1:decide ((bs.length:Int)>0)=decide (1<=bs.length):=by rw[Ge];simp;omega
  have e2:decide ((bs.length:Int)<=6)=decide (bs.length<=6):=by rw[Ge];simp;omega
  have e3:bV n=(n==0||(decide (0<n)&&decide (n<=1099511627776))):=by rw[Ge];simp[bV];omega
  rw[e1,e2,e3];simp only[h1,h2,h3,h4,h5,Dd,FT,bne,h9,if_true];generalize ((bs.length:Int)==0)=z0;cases (n==0)<;>cases z0<;>cases ts<;>cases (s==[])<;>cases ((l.length:Int)==1)<;>cases bs.all bindB<;>cases decide (1<=bs.length)<;>cases decide (bs.length<=6)<;>cases decide (0<n)<;>cases decide (n<=1099511627776)<;>rfl
 ·have h1:arL.lookup k=none:=by unfold arL;simp only[Bz];simp only[(beq_eq_false_iff_ne.2 (by omega):(k==1)=false),(beq_eq_false_iff_ne.2 (by omega):(k==2)=false),(beq_eq_false_iff_ne.2 (by omega):(k==3)=false),(beq_eq_false_iff_ne.2 (by omega):(k==4)=false),(beq_eq_false_iff_ne.2 (by omega):(k==5)=false),(beq_eq_false_iff_ne.2 (by omega):(k==6)=false),(beq_eq_false_iff_ne.2 (by omega):(k==7)=false),(beq_eq_false_iff_ne.2 (by omega):(k==8)=false),(beq_eq_false_iff_ne.2 (by omega):(k==9)=false),(beq_eq_false_iff_ne.2 (by omega):(k==10)=false),(beq_eq_false_iff_ne.2 (by omega):(k==11)=false),(beq_eq_false_iff_ne.2 (by omega):(k==12)=false),(beq_eq_false_iff_ne.2 (by omega):(k==13)=false),(beq_eq_false_iff_ne.2 (by omega):(k==14)=false),(beq_eq_false_iff_ne.2 (by omega):(k==15)=false),(beq_eq_false_iff_ne.2 (by omega):(k==16)=false),(beq_eq_false_iff_ne.2 (by omega):(k==17)=false)]
  have h5:yi k = -1:=by unfold yi;rw[IE (by omega),IE (by omega),IE];simp only[zC,HC,HS];omega
  have h6:((l.length:Int) == -1)=false:=by simp
  simp only[h1,h5,h6,IQ.isSome_none,Aa,Bool.true_or,El,Dp]
section
variable {M:Maps}
abbrev dJ (a:Fm):D:=IP .i64 (Hj a)
abbrev dI (a:Fm):IU D:=[dJ a]
abbrev mF (a:IU D) (b:Bool):Prop:=a=[IL b]
abbrev Tr (a:Fm):Int:=(↑(IR (IT ID (HN a))):Int)
abbrev f31q10:IU UInt8:=Gx (Gy (Gu #[]))
abbrev QO (a:Maps) (b:Fm) (c:Bool) (d:Bool) (e:Bool):Bool:=bif bif bif bif bif !B5 (zT (Maps.ar a) (dJ b))then true else(↑(IR (IT HV (Hz b))):Int) != Hf (IB (zT (Maps.ar a) (dJ b)) (IP .i64 0))then true else bif (↑(IR (IT Hq (HM b))):Int) != 0 then !c else false then true else bif Tr b != 0 then !d else false then true else bif HB b != 0 then !e else false then true else bif !HE b==f31q10 then Hj b != 9 else false
abbrev YH (a:Fm):IU D:=[IL (!Nd a&& !Nc a&&dK a)]
abbrev QN (a:Fm):Prop:=[IL false]=YH a
abbrev QM (a:Fm) (b:Maps):Bool:=bif Hj a==9 then Gc (IB (zT (Maps.si b) (HW (HE a))) (HW f31q10))==f31q10 else false
abbrev QL (a:Fm):IU Box:=[Hl 85 [.d (dJ a),.d (.str (HE a)),.d (.int .i64 (HB a)),.d (.sl (IT Hq (HM a))),.d (.sl (IT ID (HN a))),.d (.sl (IT HV (Hz a)))]]
theorem KL (hM:M.Ok) (f:Fm) (hf:f.wt<4611686018427387904):IK Tryz.prog (GG M) 190 [f.d] (· = [.bool (x7 f)]):=by
 have hw:=f.wt_eq;have hts:=Fm.ts_len hf;have hbs:=Fm.bs_len hf;rw[yf,←Rz];refine zq Tryz.func190 ⟨_,rfl⟩ ?_;apply @z7 _ ((F0 (Maps.ar M) λ(kv:D×D)=>sameKind (dJ f) (Hw kv)&&Ft (HX .i64) (HL kv))=true/\IK Tryz.prog (GG M) 218 (dI f) λ(rs:IU D)=>∃(b:Bool),mF rs b/\IK Tryz.prog (GG M) 219 (dI f) λ(rs:IU D)=>∃(b_1:Bool),mF rs b_1/\IK Tryz.prog (GG M) 220 (dI f) λ(rs:IU D)=>∃(b_2:Bool),mF rs b_2/\(QO M f b b_1 b_2=true->QN f)/\(QO M f b b_1 b_2=false->((Hj f==9)=true->(F0 (Maps.si M) λ(kv:D×D)=>sameKind (HW (HE f)) (Hw kv)&&Ft HI (HL kv))=true)/\(QM f M=true->QN f)/\(QM f M=false->IK Tryz.prog (GG M) 218 (dI f) λ(rs:IU D)=>∃(b:Bool),mF rs b/\(b=true->HY Tryz.prog (GG M) 223 [IH (.sl (IT Hq (HM f))),.clo 221 [] [IA 0 0]] (QL f) λ(rs:IU D) (H':IU Box)=>H' = QL f/\∃(b:Bool),mF rs b/\[IL (bif (↑(IR (IT Hq (HM f))):Int)==2 then !b else false)]=YH f)/\(b=false->IK Tryz.prog (GG M) 219 (dI f) λ(rs:IU D)=>∃(b:Bool),mF rs b/\(b=true->IK Tryz.prog (GG M) 152 [II (IT ID (HN f)),.fn 224] λ(rs:IU D)=>∃(b:Bool),mF rs b/\IK Tryz.prog (GG M) 226 [IP .i64 (HB f)] λ(rs:IU D)=>∃(b_3:Bool),mF rs b_3/\[IL (bif bif bif decide (Tr f>0)then decide (Tr f<=6)else false then !b else false then b_3 else false)]=YH f)/\(b=false->[IL true]=YH f)))))
 ·kernel_rfl
 delta dJ dI mF QO Tr f31q10 QN YH QM QL;have e0:Gx (Gy { data:= #[] })=([]:IU UInt8):=rfl;refine⟨by simp only[mG f.kind];exact hM.arA,?_⟩;refine(L4 f.kind).mono ?_;rintro rs rfl;refine⟨_,rfl,?_⟩;refine(L5 f.kind).mono ?_;rintro rs rfl;refine⟨_,rfl,?_⟩;refine(Kh f.kind).mono ?_;rintro rs rfl;refine⟨_,rfl,?_⟩;have ea:B5 (zT M.ar (.int .i64 f.kind))=(arL.lookup f.kind).isSome:=by rw[hM.arG];cases arL.lookup f.kind<;>rfl
 have eb:Hf (IB (zT M.ar (.int .i64 f.kind)) (.int .i64 0))=(arL.lookup f.kind).getD 0:=by rw[hM.arG];cases arL.lookup f.kind<;>rfl
 have ec:Gc (IB (zT M.si (.str f.name)) (.str []))=(siL.lookup f.name).getD []:=by rw[hM.siG];cases siL.lookup f.name<;>rfl
 simp only[e0,ea,eb,ec,H4,zH,zn];rw[show(!(arL.lookup f.kind).isSome||(f.l.length:Int) != (arL.lookup f.kind).getD 0||((f.ts.length:Int) != 0)&& !zC f.kind||((f.bs.length:Int) != 0)&& !yb f.kind||f.n != 0&& !xI f.kind||(!(f.name==[]))&&f.kind != 9)=Nd f from rfl];rw[show(f.kind==9&&(siL.lookup f.name).getD []==[])=Nc f from rfl];refine⟨λh=>by rw[h];rfl,λh=>⟨λ_=>by simp only[gO f.name];exact hM.siA,λh1=>by rw[h1];simp,λh1=>?_⟩⟩;rw[h,h1];simp only[Aa,EB];refine(L4 f.kind).mono ?_;rintro rs rfl;refine⟨_,rfl,λha=>?_,λha=>?_⟩
 ·refine(KP hM f f.ts (by omega) (λt ht=>by have:=hts t ht;omega)).mono ?_;rintro rs H' ⟨rfl,rfl⟩;refine⟨rfl,_,rfl,?_⟩;simp only[dK,ha,if_true]
 ·refine(L5 f.kind).mono ?_;rintro rs rfl;refine⟨_,rfl,λhq=>?_,λhq=>?_⟩
  ·refine(KM hM f.bs (by omega) (λt ht=>by have:=hbs t ht;omega)).mono ?_;rintro rs rfl;refine⟨_,rfl,?_⟩;refine(L6 f.n).mono ?_;rintro rs rfl;refine⟨_,rfl,?_⟩;simp only[dK,ha,hq,if_true,FU,if_false]
  ·simp only[dK,ha,hq,FU,if_false]
end
def c13:He:=unScope (z8 (z6 Tryz.f153) 0)
def tm13:IU AV:=[.any,.any,.ptr 1 0,.any,.any,.any,.any,.any,.any,.any,.any,.any,.any,.any,.any,.any,.any,.any]
def h13 (f0:Fm) (ok:Bool):IU Box:=[.cells 85 (dP f0),.cells 43 [.d (.int .i64 (if ok then 0 else 1))],.loop tm13 (zY c13) (zk c13) (zX c13) (if ok then none else some .ret) (if ok then .ready else .done)]
def Nb (f0:Fm):IU Box:=[.cells 85 (dP f0),.cells 43 [.d (.int .i64 0)],.loop tm13 (zY c13) (zk c13) (zX c13) none .ready]
section
variable {M:Maps}
theorem Lt (hM:M.Ok) (f0 x:Fm) (hx:x.wt<4611686018427387904):Gi Tryz.prog (GG M) 2 [.d x.d] (Nb f0) (λrs H'=>rs=[.bool (x7 x)]/\H'=h13 f0 (x7 x)):=by
 have h31:=KL hM x hx;rw[yf]at h31 ⊢;refine DW (tm:=tm13) (ps:=zY c13) (asn:=zk c13) (bd:=zX c13) mixed L0 rfl (by kernel_rfl) rfl rfl ⟨_,_,rfl,rfl⟩ (λ_=>ns (by kernel_rfl)) (λ_=>ns (by kernel_rfl)) ?_;apply @z7 _ (IK Tryz.prog (GG M) (190:Nat) [Hd [IP Ho (Hj x),HW (HE x),IP Ho (HB x),II (IT Hq (HM x)),II (IT ID (HN x)),II (IT HV (Hz x))]] λ(rs:IU D)=>∃(b:Bool),rs=[IL b]/\((!b)=true->[IL false]=[IL (x7 x)]/\[Hl (85:Nat) [IH (IP Ho (Hj f0)),IH (HW (HE f0)),IH (IP Ho (HB f0)),IH (II (IT Hq (HM f0))),IH (II (IT ID (HN f0))),IH (II (IT HV (Hz f0)))],Hl (43:Nat) [IH (IP Ho (1:Int))],Gz [IM,IM,IA (1:Nat) (0:Nat),IM,IM,IM,IM,IM,IM,IM,IM,IM,IM,IM,IM,IM,IM,IM] (zY c13) (zk c13) (zX c13) (some FJ) Dn]=[Hl (85:Nat) [IH (IP Ho (Hj f0)),IH (HW (HE f0)),IH (IP Ho (HB f0)),IH (II (IT Hq (HM f0))),IH (II (IT ID (HN f0))),IH (II (IT HV (Hz f0)))],Hl (43:Nat) [IH (IP Ho (if x7 x=true then(0:Int)else(1:Int)))],Gz [IM,IM,IA (1:Nat) (0:Nat),IM,IM,IM,IM,IM,IM,IM,IM,IM,IM,IM,IM,IM,IM,IM] (zY c13) (zk c13) (zX c13) (if x7 x=true then none else some FJ) (if x7 x=true then GY else Dn)])/\((!b)=false->[IL true]=[IL (x7 x)]/\[Hl (85:Nat) [IH (IP Ho (Hj f0)),IH (HW (HE f0)),IH (IP Ho (HB f0)),IH (II (IT Hq (HM f0))),IH (II (IT ID (HN f0))),IH (II (IT HV (Hz f0)))],Hl (43:Nat) [IH (IP Ho (0:Int))],Gz [IM,IM,IA (1:Nat) (0:Nat),IM,IM,IM,IM,IM,IM,IM,IM,IM,IM,IM,IM,IM,IM,IM] (zY c13) (zk c13) (zX c13) none GY]=[Hl (85:Nat) [IH (IP Ho (Hj f0)),IH (HW (HE f0)),IH (IP Ho (HB f0)),IH (II (IT Hq (HM f0))),IH (II (IT ID (HN f0))),IH (II (IT HV (Hz f0)))],Hl (43:Nat) [IH (IP Ho (if x7 x=true then(0:Int)else(1:Int)))],Gz [IM,IM,IA (1:Nat) (0:Nat),IM,IM,IM,IM,IM,IM,IM,IM,IM,IM,IM,IM,IM,IM,IM] (zY c13) (zk c13) (zX c13) (if x7 x = true then none else some FJ) (if x7 x=true then GY else Dn)]))
 ·kernel_rfl
 refine h31.mono ?_;rintro rs rfl;refine⟨_,rfl,λh=>?_,λh=>?_⟩
 ·have e:x7 x=false:=by simpa using h
  rw[e];exact⟨rfl,rfl⟩
 ·have e:x7 x=true:=by simpa using h
  rw[e];exact⟨rfl,rfl⟩
theorem Ls (hM:M.Ok) (f0 x:Fm) (hx:x.wt<4611686018427387904):HY Tryz.prog (GG M) 217 [.d x.d,.yld 2] (Nb f0) (λrs H'=>rs=[.bool x.formB]/\H'=h13 f0 x.formB):=by
 induction x using Ex with
 |h x ih =>
 have hw:=x.wt_eq;have hl:=rG x.l;have hy:=Lt hM f0 x hx;rw[yf]at hy ⊢;refine zZ (LL [(4,ze (α:=Nat) Tryz.prog (GG M) L0 3 (z8 (z6 Tryz.f217) 0) [1,2,12,13] (λi=>i<=x.l.length/\x7 x=true/\(x.l.take i).all F8=true) (λi=>x.l.length - i) (λi=>[(14,.d (.int .i64 i))]) (λH i=>Nb f0++H.drop 3))]) Tryz.func217 rfl ⟨_,_,rfl,rfl⟩ (zt zz) ?_;apply @z7 _ (Gi Tryz.prog (GG M) (2:Nat) [IH (Hd [IP Ho (Hj x),HW (HE x),IP Ho (HB x),II (IT Hq (HM x)),II (IT ID (HN x)),II (IT HV (Hz x))])] [Hl (85:Nat) [IH (IP Ho (Hj f0)),IH (HW (HE f0)),IH (IP Ho (HB f0)),IH (II (IT Hq (HM f0))),IH (II (IT ID (HN f0))),IH (II (IT HV (Hz f0)))],Hl (43:Nat) [IH (IP Ho (0:Int))],Gz [IM,IM,IA (1:Nat) (0:Nat),IM,IM,IM,IM,IM,IM,IM,IM,IM,IM,IM,IM,IM,IM,IM] (zY c13) (zk c13) (zX c13) none GY] λ(rs:IU D) (H':IU Box)=>∃(b:Bool),rs=[IL b]/\∃(n:Int)(s:IU UInt8)(n_1:Int)(l:IU D)(l_1: IU D)(l_2:IU D)(n_2:Int)(pend:IQ He)(st:HJ),H'=[Hl (85:Nat) [IH (IP Ho n),IH (HW s),IH (IP Ho n_1),IH (II l),IH (II l_1),IH (II l_2)],Hl (43:Nat) [IH (IP Ho n_2)],Gz [IM,IM,IA (1:Nat) (0:Nat),IM,IM,IM,IM,IM,IM,IM,IM,IM,IM,IM,IM,IM,IM,IM] (zY c13) (zk c13) (zX c13) pend st]/\((!b)=true->[IL false]=[IL (F8 x)]/\[Hl (85:Nat) [IH (IP Ho n),IH (HW s),IH (IP Ho n_1),IH (II l),IH (II l_1),IH (II l_2)],Hl (43:Nat) [IH (IP Ho n_2)],Gz [IM,IM,IA (1:Nat) (0:Nat),IM,IM,IM,IM,IM,IM,IM,IM,IM,IM,IM,IM,IM,IM,IM] (zY c13) (zk c13) (zX c13) pend st]=[Hl (85:Nat) [IH (IP Ho (Hj f0)),IH (HW (HE f0)),IH (IP Ho (HB f0)),IH (II (IT Hq (HM f0))),IH (II (IT ID (HN f0))),IH (II (IT HV (Hz f0)))],Hl (43:Nat) [IH (IP Ho (if F8 x=true then(0:Int)else(1:Int)))],Gz [IM,IM,IA (1:Nat) (0:Nat),IM,IM,IM,IM,IM,IM,IM,IM,IM,IM,IM,IM,IM,IM,IM] (zY c13) (zk c13) (zX c13) (if F8 x=true then none else some FJ) (if F8 x=true then GY else Dn)])/\((!b)=false->∃(x0:Nat),(x0<=IR (Hz x)/\x7 x=true/\F0 (HZ x0 (Hz x)) F8=true)/\((G2 (2:Nat)=G2 (2:Nat)/\IA (3:Nat) (0:Nat)=IA (3:Nat) (0:Nat)/\IT HV (Hz x)=IT HV (Hz x)/\(↑(IR (IT HV (Hz x))):Int)=(↑(IR (IT HV (Hz x))):Int)/\(0:Int)=(x0:Int)/\IN)/\(n=Hj f0/\s=HE f0/\n_1=HB f0/\l=IT Hq (HM f0)/\l_1=IT ID (HN f0)/\l_2=IT HV (Hz f0)/\IN)/\(n_2=(0:Int)/\IN)/\Gz [IM,IM,IA (1:Nat) (0:Nat),IM,IM,IM,IM,IM,IM,IM,IM,IM,IM,IM,IM,IM,IM,IM] (zY c13) (zk c13) (zX c13) pend st=Gz [IM,IM,IA (1:Nat) (0:Nat),IM,IM,IM,IM,IM,IM,IM,IM,IM,IM,IM,IM,IM,IM,IM] (zY c13) (zk c13) (zX c13) none GY/\(Hj x=Hj x/\HE x=HE x/\HB x=HB x/\IT Hq (HM x)=IT Hq (HM x)/\IT ID (HN x)=IT ID (HN x)/\IT HV (Hz x)=IT HV (Hz x)/\IN)/\IN)/\∀(x_1:Nat),x_1<=IR (Hz x)/\x7 x=true/\F0 (HZ x_1 (Hz x)) F8=true->(decide ((x_1:Int)<(↑(IR (IT HV (Hz x))):Int))=true->((0:Int)<=(x_1:Int)/\(IT HV (Hz x))[IJ (x_1:Int)]? = some (zr [HX Ho,HI,HX Ho,HK,HK,HK] (IT HV (Hz x)) (IJ (x_1:Int))))/\HY Tryz.prog (GG M) (217:Nat) [IH (zr [HX Ho,HI,HX Ho,HK,HK,HK] (IT HV (Hz x)) (IJ (x_1:Int))),G2 (2:Nat)] [Hl (85:Nat) [IH (IP Ho (Hj f0)),IH (HW (HE f0)),IH (IP Ho (HB f0)),IH (II (IT Hq (HM f0))),IH (II (IT ID (HN f0))),IH (II (IT HV (Hz f0)))],Hl (43:Nat) [IH (IP Ho (0:Int))],Gz [IM,IM,IA (1:Nat) (0:Nat),IM,IM,IM,IM,IM,IM,IM,IM,IM,IM,IM,IM,IM,IM,IM] (zY c13) (zk c13) (zX c13) none GY] λ(rs:IU D) (H':IU Box)=>∃(b:Bool),rs=[IL b]/\∃(n:Int)(s:IU UInt8)(n_3:Int)(l:IU D)(l_3:IU D)(l_4:IU D)(n_4:Int)(pend:IQ He)(st:HJ),H'=[Hl (85:Nat) [IH (IP Ho n),IH (HW s),IH (IP Ho n_3),IH (II l),IH (II l_3),IH (II l_4)],Hl (43: Nat) [IH (IP Ho n_4)],Gz [IM,IM,IA (1:Nat) (0:Nat),IM,IM,IM,IM,IM,IM,IM,IM,IM,IM,IM,IM,IM,IM,IM] (zY c13) (zk c13) (zX c13) pend st]/\((!b)=true->[IL false]=[IL (F8 x)]/\[Hl (85:Nat) [IH (IP Ho n),IH (HW s),IH (IP Ho n_3),IH (II l),IH (II l_3),IH (II l_4)],Hl (43:Nat) [IH (IP Ho n_4)],Gz [IM,IM,IA (1:Nat) (0:Nat),IM,IM,IM,IM,IM,IM,IM,IM,IM,IM,IM,IM,IM,IM,IM] (zY c13) (zk c13) (zX c13) pend st]=[Hl (85:Nat) [IH (IP Ho (Hj f0)),IH (HW (HE f0)),IH (IP Ho (HB f0)),IH (II (IT Hq (HM f0))),IH (II (IT ID (HN f0))),IH (II (IT HV (Hz f0)))],Hl (43:Nat) [IH (IP Ho (if F8 x=true then(0:Int)else(1:Int)))],Gz [IM,IM,IA (1:Nat) (0:Nat),IM,IM,IM,IM,IM,IM,IM,IM,IM,IM,IM,IM,IM,IM,IM] (zY c13) (zk c13) (zX c13) (if F8 x=true then none else some FJ) (if F8 x=true then GY else Dn)])/\((!b)=false->∃(y:Nat),(y<=IR (Hz x)/\x7 x=true/\F0 (HZ y (Hz x)) F8=true)/\IR (Hz x) - y<IR (Hz x) - x_1/\(G2 (2:Nat)=G2 (2:Nat)/\IA (3:Nat) (0:Nat)=IA (3:Nat) (0:Nat)/\IT HV (Hz x)=IT HV (Hz x)/\(↑(IR (IT HV (Hz x))):Int) = (↑(IR (IT HV (Hz x))):Int)/\Hr Ho ((x_1:Int)+(1:Int))=(y:Int)/\IN)/\(n=Hj f0/\s=HE f0/\n_3=HB f0/\l=IT Hq (HM f0)/\l_3=IT ID (HN f0)/\l_4=IT HV (Hz f0)/\IN)/\(n_4=(0:Int)/\IN)/\Gz [IM,IM,IA (1:Nat) (0:Nat),IM,IM,IM,IM,IM,IM,IM,IM,IM,IM,IM,IM,IM,IM,IM] (zY c13) (zk c13) (zX c13) pend st=Gz [IM,IM,IA (1:Nat) (0:Nat),IM,IM,IM,IM,IM,IM,IM,IM,IM,IM,IM,IM,IM,IM,IM] (zY c13) (zk c13) (zX c13) none GY/\(Hj x=Hj x/\HE x=HE x/\HB x=HB x/\IT Hq (HM x)=IT Hq (HM x)/\IT ID (HN x)=IT ID (HN x)/\IT HV (Hz x)=IT HV (Hz x)/\IN)/\IN))/\(decide ((x_1:Int)<(↑(IR (IT HV (Hz x))):Int))=false->[IL true]=[IL (F8 x)]/\[Hl (85:Nat) [IH (IP Ho (Hj f0)),IH (HW (HE f0)),IH (IP Ho (HB f0)),IH (II (IT Hq (HM f0))),IH (II (IT ID (HN f0))),IH (II (IT HV (Hz f0)))],Hl (43:Nat) [IH (IP Ho (0:Int))],Gz [IM,IM,IA (1:Nat) (0:Nat),IM,IM,IM,IM,IM,IM,IM,IM,IM,IM,IM,IM,IM,IM,IM] (zY c13) (zk c13) (zX c13) none GY]=[Hl (85:Nat) [IH (IP Ho (Hj f0)),IH (HW (HE f0)),IH (IP Ho (HB f0)),IH (II (IT Hq (HM f0))),IH (II (IT ID (HN f0))),IH (II (IT HV (Hz f0)))],Hl (43:Nat) [IH (IP Ho (if F8 x=true then(0:Int)else(1:Int)))],Gz [IM,IM,IA (1:Nat) (0:Nat),IM,IM,IM,IM,IM,IM,IM,IM,IM,IM,IM,IM,IM,IM,IM] (zY c13) (zk c13) (zX c13) (if F8 x=true then none else some FJ) (if F8 x=true then GY else Dn)])))
 ·kernel_rfl
 refine hy.mono ?_;rintro rs H' ⟨rfl,rfl⟩;refine⟨_,rfl,_,_,_,_,_,_,_,_,_,rfl,λh=>?_,λh=>⟨0,⟨by omega,by simpa using h,rfl⟩,?_,λi hi=>⟨λhlt=>?_,λhge=>?_⟩⟩⟩
 ·have e:x7 x=false:=by simpa using h
  have e2:x.formB=false:=by rw[x.formB_eq,e,Dp]
  rw[e,e2];exact⟨rfl,rfl⟩
 ·have e:x7 x=true:=by simpa using h
  rw[e];exact⟨⟨rfl,rfl,rfl,rfl,rfl,trivial⟩,⟨rfl,rfl,rfl,rfl,rfl,rfl,trivial⟩,⟨rfl,trivial⟩,rfl,⟨rfl,rfl,rfl,rfl,rfl,rfl,trivial⟩,trivial⟩
 ·simp only[H4,HS]at hlt;obtain⟨z,hz,hm⟩:=zw (l:=x.l) (x:=i) (by omega);rw[HF,wZ hz];refine⟨⟨by omega,by simp[hz]⟩,?_⟩;refine(ih z hm (by have:=CO hm;omega)).mono ?_;rintro rs H' ⟨rfl,rfl⟩;refine⟨_,rfl,_,_,_,_,_,_,_,_,_,rfl,λh=>?_,λh=>⟨i+1,⟨by omega,hi.2.1,?_⟩,by omega,?_⟩⟩
  ·have e:z.formB=false:=by simpa using h
   have e2:x.formB=false:=by
    have:x.l.all F8=false:=by rw[D3];exact⟨z,hm,by simp[e]⟩
    rw[x.formB_eq,wq,this,C8]
   rw[e,e2];exact⟨rfl,rfl⟩
  ·have e:z.formB=true:=by simpa using h
   rw[GN,hz,Fb,hi.2.2];simp[e]
  ·have e:z.formB=true:=by simpa using h
   rw[e];exact⟨⟨rfl,rfl,rfl,rfl,by rw[zx (by omega) (by omega)];simp,trivial⟩,⟨rfl,rfl,rfl,rfl,rfl,rfl,trivial⟩,⟨rfl,trivial⟩,rfl,⟨rfl,rfl,rfl,rfl,rfl,rfl,trivial⟩,trivial⟩
 ·simp only[H4,HH]at hge;have h2:=hi.2.2;rw[Gs (by omega)]at h2;have e2:x.formB=true:=by rw[x.formB_eq,wq,h2,hi.2.1];rfl
  rw[e2];exact⟨rfl,rfl⟩
theorem Lr (hM:M.Ok) (f0 x:Fm) (hx:x.wt<4611686018427387904):HY Tryz.prog (GG M) 216 [.yld 2,.iptr (s7 x)] (Nb f0) (λ_ H'=>H'=h13 f0 x.formB):=by
 have h:=Ls hM f0 x hx;rw[yf]at h;refine zB Tryz.func216 rfl ⟨[],_,rfl⟩ ?_;apply @z7 _ (HY Tryz.prog (GG M) (217:Nat) [IH (Hd [IP Ho (Hj x),HW (HE x),IP Ho (HB x),II (IT Hq (HM x)),II (IT ID (HN x)),II (IT HV (Hz x))]),G2 (2:Nat)] [Hl (85:Nat) [IH (IP Ho (Hj f0)),IH (HW (HE f0)),IH (IP Ho (HB f0)),IH (II (IT Hq (HM f0))),IH (II (IT ID (HN f0))),IH (II (IT HV (Hz f0)))],Hl (43:Nat) [IH (IP Ho (0:Int))],Gz [IM,IM,IA (1:Nat) (0:Nat),IM,IM,IM,IM,IM,IM,IM,IM,IM,IM,IM,IM,IM,IM,IM] (zY c13) (zk c13) (zX c13) none GY] λ(rs:IU D) (H':IU Box)=>∃(b:Bool),rs=[IL b]/\∃(n:Int)(s:IU UInt8)(n_1:Int),∃ (l:IU D),∃(l_1:IU D)(l_2:IU D)(n_2:Int)(pend:IQ He)(st:HJ),H'=[Hl (85:Nat) [IH (IP Ho n),IH (HW s),IH (IP Ho n_1),IH (II l),IH (II l_1),IH (II l_2)],Hl (43:Nat) [IH (IP Ho n_2)],Gz [IM,IM,IA (1:Nat) (0:Nat),IM,IM,IM,IM,IM,IM,IM,IM,IM,IM,IM,IM,IM,IM,IM] (zY c13) (zk c13) (zX c13) pend st]/\[Hl (85:Nat) [IH (IP Ho n),IH (HW s),IH (IP Ho n_1),IH (II l),IH (II l_1),IH (II l_2)],Hl (43:Nat) [IH (IP Ho n_2)],Gz [IM,IM,IA (1:Nat) (0:Nat),IM,IM,IM,IM,IM,IM,IM,IM,IM,IM,IM,IM,IM,IM,IM] (zY c13) (zk c13) (zX c13) pend st]=[Hl (85:Nat) [IH (IP Ho (Hj f0)),IH (HW (HE f0)),IH (IP Ho (HB f0)),IH (II (IT Hq (HM f0))),IH (II (IT ID (HN f0))),IH (II (IT HV (Hz f0)))],Hl (43:Nat) [IH (IP Ho (if F8 x=true then(0:Int)else(1:Int)))],Gz [IM,IM,IA (1:Nat) (0:Nat),IM,IM,IM,IM,IM,IM,IM,IM,IM,IM,IM,IM,IM,IM,IM] (zY c13) (zk c13) (zX c13) (if F8 x=true then none else some FJ) (if F8 x=true then GY else Dn)])
 ·kernel_rfl
 refine h.mono ?_;rintro rs H' ⟨rfl,rfl⟩;exact⟨_,rfl,_,_,_,_,_,_,_,_,_,rfl,rfl⟩
theorem Na (hM:M.Ok) (f:Fm) (hf:f.wt<4611686018427387904):IK Tryz.prog (GG M) 153 [f.d] (· = [.int .i64 f.checkI]):=by
 have hr:=f.rank_le_wt;have h15:=KU (G:=GG M) f (by omega);have h17:=Kc (G:=GG M) f (by omega);rw[yf]at h15 h17 ⊢;refine zu (LL [(1000001,uT Tryz.prog (GG M) [2] M0 c13)]) Tryz.func153 ⟨_,rfl⟩ (zt (xy (by kernel_rfl))) ?_;apply @z7 _ ((PFnA Tryz.prog (GG M) (189:Nat) [Hd [IP Ho (Hj f),HW (HE f),IP Ho (HB f),II (IT Hq (HM f)),II (IT ID (HN f)),II (IT HV (Hz f))]] λ(av:AV)=>av=Gg (216:Nat) [] [GO [IP Ho (Hj f),HW (HE f),IP Ho (HB f),II (IT Hq (HM f)),II (IT ID (HN f)),II (IT HV (Hz f))]])/\HY Tryz.prog (GG M) (216:Nat) [G2 (2:Nat),GO [IP Ho (Hj f),HW (HE f),IP Ho (HB f),II (IT Hq (HM f)),II (IT ID (HN f)),II (IT HV (Hz f))]] [Hl (85:Nat) [IH (IP Ho (Hj f)),IH (HW (HE f)),IH (IP Ho (HB f)),IH (II (IT Hq (HM f))),IH (II (IT ID (HN f))),IH (II (IT HV (Hz f)))],Hl (43:Nat) [IH (IP Ho (0:Int))],Gz [IM,IM,IA (1:Nat) (0:Nat),IM,IM,IM,IM,IM,IM,IM,IM,IM,IM,IM,IM,IM,IM,IM] (zY c13) (zk c13) (zX c13) none GY] λ(x:IU D) (H':IU Box)=>∃(n:Int)(s:IU UInt8)(n_1:Int)(l:IU D)(l_1:IU D)(l_2:IU D)(n_2:Int)(pend:IQ He)(st:HJ),H'=[Hl (85:Nat) [IH (IP Ho n),IH (HW s),IH (IP Ho n_1),IH (II l),IH (II l_1),IH (II l_2)],Hl (43:Nat) [IH (IP Ho n_2)],Gz [IM,IM,IA (1:Nat) (0:Nat),IM,IM,IM,IM,IM,IM,IM,IM,IM,IM,IM,IM,IM,IM,IM] (zY c13) (zk c13) (zX c13) pend st]/\st≠Do/\((pend=none/\IK Tryz.prog (GG M) (191:Nat) [Hd [IP Ho n,HW s,IP Ho n_1,II l,II l_1,II l_2]] λ(rs:IU D)=>∃(n_3:Int),rs=[IP Ho n_3]/\IK Tryz.prog (GG M) (192:Nat) [Hd [IP Ho n,HW s,IP Ho n_1,II l,II l_1,II l_2]] λ(rs:IU D)=>∃(n:Int),rs=[IP Ho n]/\((bif decide (n_3>(256:Int))then true else decide (n>(24:Int)))=true->[IP Ho (2:Int)]=[IP Ho (ES f)])/\((bif decide (n_3>(256:Int))then true else decide (n>(24:Int)))=false->[IP Ho (0:Int)]=[IP Ho (ES f)]))∨pend=some FJ/\[IP Ho n_2]=[IP Ho (ES f)]∨pend=some (DV (W9 c13))/\IK Tryz.prog (GG M) (191:Nat) [Hd [IP Ho n,HW s,IP Ho n_1,II l,II l_1,II l_2]] λ(rs:IU D)=>∃(n_3:Int),rs=[IP Ho n_3]/\IK Tryz.prog (GG M) (192:Nat) [Hd [IP Ho n,HW s,IP Ho n_1,II l,II l_1,II l_2]] λ(rs:IU D)=>∃(n:Int),rs=[IP Ho n]/\((bif decide (n_3>(256:Int))then true else decide (n>(24:Int)))=true->[IP Ho (2:Int)]=[IP Ho (ES f)])/\((bif decide (n_3>(256:Int))then true else decide (n>(24:Int)))=false->[IP Ho (0:Int)]=[IP Ho (ES f)])))
 ·kernel_rfl
 refine⟨Ly f,?_⟩;refine(Lr hM f f hf).mono ?_;rintro rs H' rfl;refine⟨_,_,_,_,_,_,_,_,_,rfl,?_,?_⟩
 ·cases f.formB<;>decide
 ·cases hb:f.formB with
  |false =>
   refine .inr (.inl ⟨rfl,?_⟩);simp[ES,hb]
  |true =>
   refine .inl ⟨rfl,?_⟩;refine h15.mono ?_;rintro rs rfl;refine⟨_,rfl,?_⟩;refine h17.mono ?_;rintro rs rfl;refine⟨_,rfl,?_⟩;have e:(bif decide ((f.rank:Int)>256)then true else decide ((f.depth:Int)>24))=decide (256<f.rank∨24<f.depth):=by rw[Ge,zH];simp;omega
   rw[e];refine⟨λh2=>?_,λh2=>?_⟩
   ·simp only[HS]at h2;simp[ES,hb,h2]
   ·simp only[HH]at h2;simp only[ES,hb,if_true,IE h2]
end
theorem QK (bs:IU Bd):((bs.map ID).all λd=>d.cells.length==2)=true:=by rw[G3];intro d hd;obtain⟨t,_,rfl⟩:=Gd.1 hd;rfl
section
variable {G:Nat->IQ (IU D)}
end
section
abbrev Nm:=IU UInt8
def KK (bnd:IU Nm) (o:IU Nm) (t:Tm):IU Nm:=if t.kind != 1&& !bnd.contains t.name&& !o.contains t.name then o++[t.name]else o
mutual
def Fm.look (bnd out:IU Nm):Fm->IU Nm
 |.mk _ _ _ ts bs l=>Fm.looks (bs.map (·.name)++bnd) (ts.foldl (KK (bs.map (·.name)++bnd)) out) l
def Fm.looks (bnd out:IU Nm):IU Fm->IU Nm
 |[]=>out
 |x::r=>Fm.looks bnd (x.look bnd out) r
end
def KJ (es:IU (D×D)) (s:Nm):Int:=Hf (IB (zT es (.str s)) (.int .i64 0))
structure EsOk (es:IU (D×D)) (bnd:IU Nm):Prop where
 all:(es.all λkv=>sameKind (.str []) kv.1&&Ft (.int .i64) kv.2)=true
 cnt:∀s,KJ es s=(bnd.count s:Int)
theorem YG (k k':Nm) (x:D):∀(es:IU (D×D)),zT (updD es (.str k) x) (.str k')=if k'=k then some x else zT es (.str k')
 |[]=>by
  simp only[updD,zT,zzx];by_cases h:k'=k
  ·subst h;simp[beqD]
  ·have h1:(k'==k)=false:=by simpa using h
   simp[beqD,h,h1]
 |kv::r=>by
  have ih:=YG k k' x r;simp only[updD];by_cases hb:beqD (.str k) kv.1=true
  ·rw[Hv hb];by_cases h:k'=k
   ·subst h;simp[zT,beqD]
   ·simp only[zT,zzx,IE h];have h1:beqD (.str k') (.str k)=false:=by simp[beqD,h]
    have h2:beqD (.str k') kv.1=false:=by
     obtain⟨a,b⟩:=kv;cases a<;>simp[beqD]at hb ⊢
     subst hb;exact h
    rw[h1,h2]
  ·rw[IE hb];have e:∀l:IU (D×D),zT (kv::l) (.str k')=if beqD (.str k') kv.1=true then some kv.2 else zT l (.str k'):=λl=>by simp only[zT,zzx];cases beqD (.str k') kv.1<;>rfl
   rw[e,e,ih];by_cases h:k'=k
   ·subst h;rw[IE hb];simp
   ·simp only[IE h]
theorem Tp {Q:D×D->Bool}(k x:D):∀(es:IU (D×D)),es.all Q=true->Q (k,x)=true->(updD es k x).all Q=true
 |[],_,h=>by simp[updD,h]
 |kv::r,h,h2=>by
  simp only[D8,HC]at h;simp only[updD];split
  ·simp[h2,h.2]
  ·simp[h.1,Tp k x r h.2 h2]
section
variable {G:Nat->IQ (IU D)}
end
end
section
def KI (bnd o:IU Nm) (s:Nm):IU Nm:=if !bnd.contains s&& !o.contains s then o++[s]else o
def I9 (ts:IU Tm):IU Nm:=(ts.filter λt=>t.kind != 1).map (·.name)
mutual
def Fm.free:Fm->IU Nm
 |.mk _ _ _ ts bs l=>(I9 ts++Fm.frees l).foldl (KI (bs.map (·.name))) []
def Fm.frees:IU Fm->IU Nm
 |[]=>[]
 |x::r=>x.free++Fm.frees r
end
section
variable {G:Nat->IQ (IU D)}
end
end
end Go.Fo
open Go.Fo renaming Maps->Gf
namespace Go.Fo
open Go Go.Sx
theorem s8 {f:Fm}(h:f.checkI=0):f.formB=true:=by
 unfold ES at h;split at h
 ·assumption
 ·cases h
theorem YF (k:Int) (s:Nm) (n:Int) (ts:IU Tm) (bs:IU Bd) (l:IU Fm):(E1 k s n ts bs l).formB=(x7 (.mk k s n ts bs l)&&l.all F8):=by rw[F8,wq]
def Lq (f:Fm):Bool:=if f.kind==10 then(match f.l with|[x]=>decide (3<=x.kind)&&decide (x.kind<9)|_=>false)else f.kind != 13&&(f.kind != 16||decide (0<f.n))&&(f.kind != 17||decide (f.n<1099511627776))
mutual
def Fm.normB:Fm->Bool
 |.mk k s n ts bs l=>Fm.normsB l&&Lq (.mk k s n ts bs l)
def Fm.normsB:IU Fm->Bool
 |[]=>true
 |x::r=>x.normB&&Fm.normsB r
end
abbrev En:=IU Bd
def yt (e:En) (nm:Nm):Bool:=e.any λb=>b.name==nm
def sortE:En->Nm->Int
 |[],_=>0
 |b::r,nm=>if b.name==nm then b.sort else sortE r nm
def uf (e:En):Bool:=e.all bindB&&decide ((e.map (·.name)).Nodup)
def ue (k:Int):Int:=if k=3∨k=4 then 2 else if k=5∨k=6 then 3 else if k=7 then 1 else 0
def s9 (k s:Int):Int:=if k=3 then 6 else if k=5 then 7 else if k=4∨k=6∨k=7 then 8 else s
def zV (e:En) (t:Tm):Int×Int :=if t.kind=1 then(8,0)else if yt e t.name=false then(0,81)else if ue t.kind≠0/\sortE e t.name≠ue t.kind then(0,80)else(s9 t.kind (sortE e t.name),0)
def mb (e:En) (t:Tm) (s:Int):Int:=if(zV e t).2=0/\(zV e t).1≠s then 80 else(zV e t).2
def d7 (e:En) (op:Nm) (a b:Tm):Int :=if(zV e a).2≠0 then(zV e a).2 else if(zV e b).2≠0 then(zV e b).2 else if(zV e a).1≠(zV e b).1∨ ¬ (op=[61]∨op=[33,61])/\(zV e a).1≠8/\(zV e a).1≠2/\(zV e a).1≠6 then 80 else 0
def sZ (k:Int):Int×Int :=if k=3 then(1,2)else if k=4 then(1,3)else if k=5 then(4,1)else if k=6 then(5,1)else if k=7 then(4,2)else(3,2)
def gN (e:En) (k:Int) (a b:Tm):Int:=if mb e a (sZ k).1≠0 then mb e a (sZ k).1 else mb e b (sZ k).2
def sE (e:En):IU Bd->IQ En
 |[]=>some e
 |b::r=>if yt e b.name then none else sE (e++[b]) r
mutual
def Fm.ty:Fm->En->Int
 |.mk k op _ ts bs l,e =>
  if k=9 then d7 e op (xh ts 0) (xh ts 1)
  else if zC k then gN e k (xh ts 0) (xh ts 1)
  else match sE e bs with
   |none=>82
   |some e'=>Fm.tys l e'
def Fm.tys:IU Fm->En->Int
 |[],_=>0
 |x::r,e=>if x.ty e≠0 then x.ty e else Fm.tys r e
end
def Fm.tyI (f:Fm) (e:En):Int:=if uf e=false then 1 else if f.checkI≠0 then f.checkI else f.ty e
theorem Fm.ty_eq (f:Fm) (e:En):f.ty e=if f.kind=9 then d7 e f.name (xh f.ts 0) (xh f.ts 1)else if zC f.kind then gN e f.kind (xh f.ts 0) (xh f.ts 1)else match sE e f.bs with
   |none=>82
   |some e'=>Fm.tys f.l e':=by cases f;rw[Fm.ty];rfl
theorem YE {e:En}{nm:Nm}:yt e nm=true↔nm∈e.map (·.name):=by
 unfold yt;rw[Dr,Gd];constructor
 ·rintro⟨b,h1,h2⟩;exact⟨b,h1,by simpa using h2⟩
 ·rintro⟨b,h1,h2⟩;exact⟨b,h1,by simpa using h2⟩
theorem gM (a b:En) (nm:Nm):yt (a++b) nm=(yt a nm||yt b nm):=by unfold yt;rw[B2]
theorem Ry (a b:En) (nm:Nm):sortE (a++b) nm=if yt a nm then sortE a nm else sortE b nm:=by
 induction a with
 |nil=>rfl
 |cons x r ih =>
  simp only[IU.cons_append,sortE];by_cases h:(x.name==nm)=true
  ·rw[Hv h,Hv h,Hv];simp[yt,h]
  ·rw[IE h,IE h,ih];have h':(x.name==nm)=false:=by simpa using h
   have:yt (x::r) nm=yt r nm:=by simp only[yt,E5,h',FD]
   rw[this]
theorem WS {e:En}{nm:Nm}(h:yt e nm=false):sortE e nm=0:=by
 induction e with
 |nil=>rfl
 |cons x r ih =>
  simp only[yt,E5,E3]at h;simp only[sortE,h.1,FU,if_false];exact ih h.2
theorem NZ (bs:IU Bd):∀e:En,sE e bs=if(bs.all λb=>!yt e b.name)&&decide ((bs.map (·.name)).Nodup)then some (e++bs)else none:=by
 induction bs with
 |nil=>intro e;simp[sE]
 |cons b r ih =>
  intro e;rw[sE];by_cases h:yt e b.name=true
  ·rw[Hv h,IE];simp[h]
  ·rw[IE h,ih];have h':yt e b.name=false:=by simpa using h
   have hall:(r.all λx=>!yt (e++[b]) x.name)=((r.all λx=>!yt e x.name)&&decide (b.name∉r.map (·.name))):=by
    rw[Ge];simp only[G3,HC,HS,Gd,not_exists,not_and,gM];constructor
    ·intro hh;refine⟨λx hx=>?_,λx hx e2=>?_⟩
     ·have:=hh x hx;simp only[Fe,E3]at this;simp[this.1]
     ·have:=hh x hx;simp[yt,e2]at this
    ·rintro⟨h1,h2⟩ x hx;have h3:=h1 x hx;have h4:=h2 x hx;simp only[Fe]at h3;have h5:(b.name==x.name)=false:=by rw[beq_eq_false_iff_ne];exact λe=>h4 e.symm
     rw[h3];simp only[yt,E5,BJ,h5];rfl
   rw[hall];simp only[D8,h',Aa,EB,Gb,EO,Bool.decide_and,DN,IU.singleton_append];congr 1;rw[Bool.and_assoc]
mutual
def Fm.occ:Fm->IU Nm
 |.mk _ _ _ ts bs l=>ts.map (·.name)++bs.map (·.name)++Fm.occs l
def Fm.occs:IU Fm->IU Nm
 |[]=>[]
 |x::r=>x.occ++Fm.occs r
end
theorem ir {f:Fm}(hf:f.formB=true) (ha:zC f.kind=true):f.ts.length=2:=by rw[f.formB_eq,HC]at hf;have h:=hf.1;unfold x7 at h;rw[HC,HC]at h;have h2:=h.1.2;unfold wY at h2;rw[Hv ha]at h2;simp only[HC,HS]at h2;exact h2.1.1.1
theorem qC {e:En}:uf e=true↔(∀b∈e,bindB b=true)/\(e.map (·.name)).Nodup:=by unfold uf;rw[HC,G3,HS]
theorem gL {e:En}{nm:Nm}:yt e nm=false↔nm∉e.map (·.name):=by rw[←YE];simp
theorem Rx {e:En}{b:Bd}(hb:bindB b=true) (hn:yt e b.name=false):uf (e++[b])=uf e:=by
 rw[Ge,qC,qC];rw[gL]at hn;constructor
 ·rintro⟨h1,h2⟩;refine⟨λx hx=>h1 x (by simp[hx]),?_⟩;rw[GI,BW]at h2;exact h2.1
 ·rintro⟨h1,h2⟩;refine⟨λx hx=>?_,?_⟩
  ·rcases FK.1 hx with h|h
   ·exact h1 x h
   ·simp at h;subst h;exact hb
  ·rw[GI,BW];refine⟨h2,by simp,?_⟩;intro a ha c hc;simp at hc;subst hc;rintro rfl;exact hn ha
theorem o4 {f:Fm}(hf:f.formB=true) (ha:zC f.kind=true):f.bs=[]/\f.l=[]/\∃a b,f.ts=[a,b]:=by
 have h2:=ir hf ha;obtain⟨a,b,h3⟩:=Ng h2;have hs:=vx hf;refine⟨?_,?_,a,b,h3⟩
 ·cases hs<;>first|rfl|(simp[HM]at h2)
 ·cases hs<;>first|rfl|(simp[HM]at h2)
theorem Rw {f:Fm}(hf:f.formB=true) (ha:¬ zC f.kind=true):f.ts=[]:=by rw[f.formB_eq,HC]at hf;have h:=hf.1;unfold x7 at h;rw[HC,HC]at h;have h2:=h.1.2;unfold wY at h2;rw[IE ha]at h2;simp only[HC,IU.isEmpty_iff]at h2;exact h2.1
structure Ru where
 name:Nm
 hard:Bool
 weight:Int
 each:IU Bd
 body:Fm
def Ru.d (r:Ru):D:= .agg [.str r.name,.bool r.hard,.int .i64 r.weight,.sl (r.each.map ID),.int .i64 r.body.kind,.str r.body.name,.int .i64 r.body.n,.sl (r.body.ts.map Hq),.sl (r.body.bs.map ID),.sl (r.body.l.map HV)]
def rE (r:Ru):Bool:=if r.hard then r.weight==0 else decide (1<=r.weight)&&decide (r.weight<=1000)
def Ru.tyI (r:Ru):Int :=if(yw r.name&&rE r&&decide (r.each.length<=6)&&r.each.all bindB)=false then 1 else if r.body.checkI≠0 then r.body.checkI else if(r.each.map (·.name)).Nodup then r.body.ty r.each else 82
def rulesT:IU Nm->Nat->IU Ru->Int×Int
 |_,_,[]=>(0,0)
 |seen,i,r::l=>if r.tyI≠0 then((i:Int),r.tyI)else if seen.contains r.name then((i:Int),82)else rulesT (seen++[r.name]) (i+1) l
def xn (l:IU Ru):Int×Int:=rulesT [] 0 l
end Go.Fo
open Go.Fo.Fm renaming tys->Eu
open Go.Fo.Ru renaming body->G7,d->Hm,each->GT,hard->FW,name->FX,tyI->Bm,weight->FZ
namespace Go.Fo
open Go Go.Sx Go.Proofs
theorem _root_.Go.Sx.PFn.use {P:HP}{G:Nat->IQ (IU D)}{f:FuncId}{ds rs:IU D}{Q:IU D->Prop}(h:IK P G f ds (· = rs)) (k:Q rs):IK P G f ds Q:=h.mono (by rintro _ rfl;exact k)
def findN:En->Nm->IQ Nat
 |[],_=>none
 |b::r,nm=>if b.name==nm then some 0 else(findN r nm).map (· + 1)
def vM (e:En) (nm:Nm):Int:=match findN e nm with
 |some i=>(i:Int)
 |none=>-1
theorem gK {nm:Nm}{z:Bd}:∀{e:En}{i:Nat},e[i]? = some z->yt (e.take i) nm=false->(z.name==nm)=true->findN e nm=some i
 |[],_,h,_,_=>by simp at h
 |b::r,0,h,_,h1=>by simp at h;subst h;simp only[findN,h1,if_true]
 |b::r,i+1,h,h0,h1=>by simp only[FM,yt,E5,E3]at h0;simp only[findN,h0.1,FU,if_false];rw[gK (i:=i) (by simpa using h) h0.2 h1];rfl
theorem o5 {nm:Nm}:∀{e:En},yt e nm=false->findN e nm=none
 |[],_=>rfl
 |b::r,h=>by simp only[yt,E5,E3]at h;simp only[findN,h.1,FU,if_false];rw[o5 h.2];rfl
theorem o6 {nm:Nm}:∀{e:En},yt e nm=true->∃i z,findN e nm=some i/\e[i]? = some z/\z.sort=sortE e nm
 |[],h=>by cases h
 |b::r,h=>by
  by_cases hb:(b.name==nm)=true
  ·exact⟨0,b,by simp only[findN,hb,if_true],rfl,by simp only[sortE,hb,if_true]⟩
  ·have h':yt r nm=true:=by simp only[yt,E5,F9]at h;exact h.resolve_left hb
   obtain⟨i,z,h1,h2,h3⟩:=o6 h';exact⟨i+1,z,by simp only[findN,IE hb,h1];rfl,by simpa using h2,by simp only[sortE,IE hb];exact h3⟩
theorem To {nm:Nm}:∀{e:En}{i:Nat},yt (e.take i) nm=true->∃j,j<i/\findN e nm=some j
 |[],i,h=>by simp[yt]at h
 |b::r,0,h=>by simp[yt]at h
 |b::r,i+1,h=>by
  by_cases hb:(b.name==nm)=true
  ·exact⟨0,by omega,by simp only[findN,hb,if_true]⟩
  ·have h':yt (r.take i) nm=true:=by simp only[FM,yt,E5,F9]at h;exact h.resolve_left hb
   obtain⟨j,h1,h2⟩:=To h';exact⟨j+1,by omega,by simp only[findN,IE hb,h2];rfl⟩
theorem Rv (e:En) (nm:Nm):decide (vM e nm<0) = !yt e nm:=by
 cases h:yt e nm with
 |false=>unfold vM;rw[o5 h];rfl
 |true=>obtain⟨i,z,h1,_,_⟩:=o6 h;unfold vM;rw[h1];simp
theorem QJ (e:En) (nm:Nm):decide (vM e nm>=0)=yt e nm:=by
 cases h:yt e nm with
 |false=>unfold vM;rw[o5 h];rfl
 |true=>obtain⟨i,z,h1,_,_⟩:=o6 h;unfold vM;rw[h1];simp
theorem QI {e:En}{i:Nat}{z:Bd}(h:e[i]? = some z):(vM e z.name != (i:Int))=yt (e.take i) z.name:=by
 cases h0:yt (e.take i) z.name with
 |false=>unfold vM;rw[gK h h0 (by simp)];simp
 |true =>
  obtain⟨j,h1,h2⟩:=To h0;unfold vM;rw[h2];simp only[bne_iff_ne,ne_eq];omega
theorem QH (e:En) (b:Bd):uf (e++[b])=(uf e&&bindB b&& !yt e b.name):=by
 by_cases h1:bindB b=true
 ·by_cases h2:yt e b.name=true
  ·rw[h1,h2,Bool.and_true,El,C8];cases h3:uf (e++[b])with
   |false=>rfl
   |true =>
    have h4:=(qC.1 h3).2;rw[GI,BW]at h4;exact Hu rfl (h4.2.2 _ (YE.1 h2) b.name (by simp))
  ·have h2':yt e b.name=false:=by simpa using h2
   rw[Rx h1 h2',h1,h2'];simp
 ·have h1':bindB b=false:=by simpa using h1
  rw[h1',C8,Dp];cases h3:uf (e++[b])with
  |false=>rfl
  |true=>exact Hu ((qC.1 h3).1 b (by simp)) h1
theorem Rt {e:En}(h:uf e=true) (i:Nat):uf (e.take i)=true:=by rw[qC]at h ⊢;exact⟨λb hb=>h.1 b (IU.mem_of_mem_take hb),h.2.sublist (zw8 _ (B0 _ _))⟩
theorem gJ {e:En}{i:Nat}{z:Bd}(h:e[i]? = some z):uf (e.take (i+1))=(uf (e.take i)&&bindB z&& !yt (e.take i) z.name):=by rw[GN,h,←QH];rfl
def nq (e:En):Nat:=e.length+bU e
def Ko (nm:Nm):IU Box:=[.cells 9 [.d (.str nm)]]
section
variable {G:Nat->IQ (IU D)}{M:Gf}
theorem Iz (b:Bd) (nm:Nm):HY Tryz.prog G 228 [.d b.d,.ptr 0 0] (Ko nm) (λrs H'=>rs=[.bool (b.name==nm)]/\H'=Ko nm):=by
 unfold ID;refine zB Tryz.func228 rfl ⟨_,_,rfl,rfl⟩ ?_;apply @z7 _ ([IL (DC b==nm)]=[IL (DC b==nm)]/\[Hl 9 [.d (.str nm)]]=[Hl 9 [.d (.str nm)]])
 ·kernel_rfl
 exact⟨rfl,rfl⟩
abbrev dH (a:Nat) (b:En) (c:Nm):Prop:=a<=IR b/\yt (HZ a b) c=false
abbrev gI (a:En) (b:Nat):D:=zr [HI,HX .i64] (IT ID a) (IJ (b:Int))
abbrev jb (a:Nm):IU Box:=[Hl 9 [.d (.str a)]]
theorem Iy (e:En) (nm:Nm) (hl:e.length<4611686018427387904):HY Tryz.prog G 227 [.d (.sl (e.map ID)),.clo 228 [] [.ptr 0 0]] (Ko nm) (λrs H'=>rs=[.int .i64 (vM e nm)]/\H'=Ko nm):=by
 refine zZ (LL [(2,ze (α:=Nat) Tryz.prog G L0 1 (z8 (z6 Tryz.f227) 0) [0,1,7] (λi=>i<=e.length/\yt (e.take i) nm=false) (λi=>e.length - i) (λi=>[(8,.d (.int .i64 i))]) (λH _=>H))]) Tryz.func227 rfl ⟨_,_,rfl,rfl⟩ (zt zz) ?_;apply @z7 _ (∃(x0:Nat),dH x0 e nm/\((IT ID e=IT ID e/\Gg 228 [] [IA 0 0]=Gg 228 [] [IA 0 0]/\(↑(IR (IT ID e)):Int)=(↑(IR (IT ID e)):Int)/\(0:Int)=(x0:Int)/\IN)/\(nm=nm/\IN)/\IN)/\∀(x:Nat),dH x e nm->(decide ((x:Int)<(↑(IR (IT ID e)):Int))=true->((0:Int)<=(x:Int)/\(IT ID e)[IJ (x:Int)]? = some (gI e x))/\HY Tryz.prog G 228 [IH (gI e x),.ptr 0 0] (jb nm) λ(rs:IU D) (H':IU Box)=>∃(b:Bool),rs=[IL b]/\∃(s:IU UInt8),H'=[Hl 9 [.d (.str s)]]/\(b=true->[IP .i64 (x:Int)]=[IP .i64 (vM e nm)]/\[Hl 9 [.d (.str s)]]=jb nm)/\(b=false->∃(y:Nat),dH y e nm/\IR e - y<IR e - x/\(IT ID e=IT ID e/\Gg 228 [] [IA 0 0]=Gg 228 [] [IA 0 0]/\(↑(IR (IT ID e)):Int)=(↑(IR (IT ID e)):Int)/\Hr .i64 ((x:Int)+1)=(y:Int)/\IN)/\(s=nm/\IN)/\IN))/\(decide ((x:Int)<(↑(IR (IT ID e)):Int))=false->[IP .i64 (-1)]=[IP .i64 (vM e nm)]/\jb nm=jb nm))
 ·kernel_rfl
 delta dH gI jb;refine⟨0,⟨by omega,rfl⟩,⟨⟨rfl,rfl,rfl,rfl,trivial⟩,⟨rfl,trivial⟩,trivial⟩,λi hi=>⟨λhlt=>?_,λhge=>?_⟩⟩
 ·simp only[H4,HS]at hlt;obtain⟨z,hz,hm⟩:=zw (l:=e) (x:=i) (by omega);rw[HF,w6 hz];refine⟨⟨by omega,by simp[hz]⟩,?_⟩;refine(Iz z nm).mono ?_;rintro rs H' ⟨rfl,rfl⟩;refine⟨_,rfl,_,rfl,λhb=>⟨?_,rfl⟩,λhb=>⟨i+1,⟨by omega,?_⟩,by omega,⟨rfl,rfl,rfl,?_,trivial⟩,⟨rfl,trivial⟩,trivial⟩⟩
  ·unfold vM;rw[gK hz hi.2 hb]
  ·rw[GN,hz,gM,hi.2];simp only[Cf,yt,E5,BJ,hb];rfl
  ·rw[zx (by omega) (by omega)];simp
 ·simp only[H4,HH]at hge;have h2:=hi.2;rw[Gs (by omega)]at h2;refine⟨?_,rfl⟩;unfold vM;rw[o5 h2]
theorem KH (e:En) (nm:Nm) (hl:e.length<4611686018427387904):IK Tryz.prog G 193 [.sl (e.map ID),.str nm] (· = [.int .i64 (vM e nm)]):=by
 refine zq Tryz.func193 ⟨_,rfl⟩ ?_;apply @z7 _ (HY Tryz.prog G 227 [IH (.sl (IT ID e)),.clo 228 [] [IA 0 0]] (jb nm) λ(rs:IU D) (H':IU Box)=>∃(n:Int),rs=[IP .i64 n]/\∃(s:IU UInt8),H'=[Hl 9 [.d (.str s)]]/\[IP .i64 n]=[IP .i64 (vM e nm)])
 ·kernel_rfl
 delta jb dH gI;refine(Iy e nm hl).mono ?_;rintro rs H' ⟨rfl,rfl⟩;exact⟨_,rfl,_,rfl,rfl⟩
abbrev sy (a:En):Int:=(↑(IR (IT ID a)):Int)
theorem Ix (e:En):PFnF Tryz.prog G 196 [.sl (e.map ID)] (· = e.map ID):=by
 refine PFnF.of_A (Bv (fn:=Tryz.f196) (code:=z6 Tryz.f196) mixed L0 Tryz.func196 (by kernel_rfl) tw ?_);apply @z7 _ ((0<=sy e/\sy e<=sy e/\sy e=sy e)/\∃(l:IU D),.full (HZ (IJ (sy e)) (IT ID e))=AV.full l/\l=IT ID e)
 ·kernel_rfl
 delta sy;refine⟨⟨by omega,Int.le_refl _,rfl⟩,_,rfl,?_⟩;rw[HF,IU.take_length]
def one1:Fm:= .mk 1 [] 0 [] [] []
theorem KG (hM:M.Ok) (b:Bd) (hb:b.name.length<=1099511627776):IK Tryz.prog (GG M) 151 [b.d] (· = [.bool (bindB b)]):=by
 have h25:=Na hM (.mk 14 [] 0 [] [b] [one1]) (by simp[Fm.wt,Fm.wts,YR,bU,one1];omega);unfold ID;refine zq Tryz.func151 ⟨_,rfl⟩ ?_;apply @z7 _ (IK Tryz.prog (GG M) 153 [Hd [.int .i64 14,.str (Gx (Gy (Gu #[]))),.int .i64 0,.sl [],.sl [Hd [.str (DC b),.int .i64 (Cr b)]],.sl [Hd [.int .i64 1,.str (Gx (Gy (Gu #[]))),.int .i64 0,.sl [],.sl [],.sl []]]]] λ(rs:IU D)=>∃(n:Int),rs=[IP .i64 n]/\[IL (n==0)]=[IL (bindB b)])
 ·kernel_rfl
 have e1:(E1 14 [] 0 [] [b] [one1]).d = .agg [.int .i64 14,.str [],.int .i64 0,.sl [],.sl [.agg [.str b.name,.int .i64 b.sort]],.sl [.agg [.int .i64 1,.str [],.int .i64 0,.sl [],.sl [],.sl []]]]:=by rw[A5];simp[ID,one1,A5]
 rw[e1]at h25;refine h25.use ⟨_,rfl,?_⟩;have e2:(E1 14 [] 0 [] [b] [one1]).formB=bindB b:=by simp[one1,YF,x7,yi,wY,vl,zC,yb,xI,Hj,HM,HN,Hz,HB,HE]
 unfold ES;rw[e2];cases bindB b with
 |false=>rfl
 |true=>simp[one1,Dj,GB,Fm.depth,Ei]
abbrev Tn (a:Nat) (b:En):Prop:=a<=IR b/\uf (HZ a b)=true
abbrev YD (a:En):Prop:=IT ID a=IT ID a
theorem KF (hM:M.Ok) (e:En) (hl:nq e<=1099511627776):IK Tryz.prog (GG M) 154 [.sl (e.map ID)] (· = [.bool (uf e)]):=by
 refine zu (LL [(2,ze (α:=Nat) Tryz.prog (GG M) L0 0 (z8 (z6 Tryz.f154) 0) [0,5,6] (λi=>i<=e.length/\uf (e.take i)=true) (λi=>e.length - i) (λi=>[(7,.d (.int .i64 i))]) (λH _=>H))]) Tryz.func154 ⟨_,rfl⟩ (zt zz) ?_;apply @z7 _ (∃(x0:Nat),Tn x0 e/\((YD e/\YD e/\sy e=sy e/\(0:Int)=(x0:Int)/\IN)/\IN)/\∀(x:Nat),Tn x e->(decide ((x:Int)<sy e)=true->((0:Int)<=(x:Int)/\(IT ID e)[IJ (x:Int)]? = some (gI e x))/\IK Tryz.prog (GG M) 151 [gI e x] λ(rs:IU D)=>∃(b:Bool),rs=[IL b]/\IK Tryz.prog (GG M) 193 [II (IT ID e),.str (Gc (IB (z1 (IT ID e) (IJ (x:Int)) 0) default))] λ(rs:IU D)=>∃(n:Int),rs=[IP .i64 n]/\((bif !b then true else n != (x:Int))=true->[IL false]=[IL (uf e)])/\((bif !b then true else n != (x:Int))=false->∃(y:Nat),Tn y e/\IR e - y<IR e - x/\(YD e/\YD e/\sy e=sy e/\Hr .i64 ((x:Int)+1)=(y:Int)/\IN)/\IN))/\(decide ((x:Int)<sy e) = false->[IL true]=[IL (uf e)]))
 ·kernel_rfl
 delta Tn YD sy gI dH jb;unfold nq at hl;refine⟨0,⟨by omega,rfl⟩,by simp,λi hi=>⟨λhlt=>?_,λhge=>?_⟩⟩
 ·simp only[H4,HS]at hlt;obtain⟨z,hz,hm⟩:=zw (l:=e) (x:=i) (by omega);have hzl:=mH hm;rw[HF,w6 hz,xE hz];have e2:Gc (IB (some (HW z.name)) default)=z.name:=rfl;rw[e2];refine⟨⟨by omega,by simp[hz]⟩,?_⟩;refine(KG hM z (by omega)).use ⟨_,rfl,?_⟩;refine(KH e z.name (by omega)).use ⟨_,rfl,?_⟩;rw[QI hz];have hs:=gJ hz;refine⟨λh=>?_,λh=>⟨i+1,⟨by omega,?_⟩,by omega,?_⟩⟩
  ·have:uf (e.take (i+1))=false:=by
    rw[hs,hi.2];cases hb:bindB z with
    |false=>rfl
    |true=>rw[hb]at h;simp only[El,cond_false]at h;rw[h];rfl
   cases he:uf e with
   |false=>rfl
   |true=>rw[Rt he]at this;cases this
  ·rw[hs,hi.2];cases hb:bindB z with
   |false=>rw[hb]at h;cases h
   |true=>rw[hb]at h;simp only[El,cond_false]at h;rw[h];rfl
  ·rw[zx (by omega) (by omega)];simp
 ·simp only[H4,HH]at hge;have h2:=hi.2;rw[Gs (by omega)]at h2;rw[h2]
end
theorem qB {e:En}{i:Nat}{z:Bd}(h:e[i]? = some z) (nm:Nm):yt (e.take (i+1)) nm=(yt (e.take i) nm||z.name==nm):=by rw[GN,h,gM];simp[yt]
theorem QG {e:En}{z:Bd}(h:z∈e) {nm:Nm}(h2:(z.name==nm)=true):yt e nm=true:=Dr.2 ⟨z,h,h2⟩
theorem Rs {e:En}{i:Nat}{z:Bd}{nm:Nm}(h:e[i]? = some z) (h0:yt (e.take i) nm=false) (h1:(z.name==nm)=true):sortE e nm=z.sort:=by
 have hlt:i<e.length:=by
  rcases G4 i e.length with h' |h'
  ·exact h'
  ·rw[Gt h']at h;cases h
 have e1:e=e.take i++z::e.drop (i+1):=by rw[Ff hlt]at h;cases h;rw[←At hlt,CD]
 have:sortE e nm=sortE (e.take i++z::e.drop (i+1)) nm:=by rw[←e1]
 rw[this,Ry,h0];simp only[FU,if_false,sortE,h1,if_true]
theorem o7 (l:IU Bd):yH (l.map ID) 2=true:=by unfold yH;rw[G3];intro d hd;obtain⟨t,_,rfl⟩:=Gd.1 hd;rfl
section
variable {G:Nat->IQ (IU D)}{M:Gf}
theorem Iw (b:Bd) (hb:b.name.length<4611686018427387904):IK Tryz.prog G 173 [b.d] (· = [.bool (bindB b)]):=by
 unfold ID;refine zq Tryz.func173 ⟨_,rfl⟩ ?_;apply @z7 _ (IK Tryz.prog G 172 [HW (DC b)] λ(rs:IU D)=>∃(b_1:Bool),rs=[IL b_1]/\[IL (bif bif b_1 then decide (Cr b>=1)else false then decide (Cr b<=7)else false)]=[IL (bindB b)])
 ·kernel_rfl
 refine(Nh b.name hb).use ⟨_,rfl,?_⟩;simp only[zn,bindB,ge_iff_le]
abbrev ja (a:Nat) (b:En) (c:Nm):Prop:=a<=IR b/\yt (HZ a b) c=false
abbrev dG (a:Nat) (b:En):Bool:=decide ((a:Int)<(↑(IR (IT ID b)):Int))
abbrev dF (a:En) (b:Nat) (c:Nm):Bool:=Gc (IB (z1 (IT ID a) (IJ (b:Int)) 0) default)==c
theorem KE (e:En) (nm:Nm) (hl:e.length<4611686018427387904):IK Tryz.prog G 175 [.sl (e.map ID),.str nm] (· = [.bool (yt e nm)]):=by
 refine zu (LL [(2,ze (α:=Nat) Tryz.prog G L0 0 (z8 (z6 Tryz.f175) 0) [0,1] (λi=>i<=e.length/\yt (e.take i) nm=false) (λi=>e.length - i) (λi=>[(5,.d (.int .i64 i))]) (λH _=>H))]) Tryz.func175 ⟨_,rfl⟩ (zt zz) ?_;apply @z7 _ (∃(x0:Nat),ja x0 e nm/\((IT ID e=IT ID e/\nm=nm/\(0:Int)=(x0:Int)/\IN)/\IN)/\∀(x:Nat),ja x e nm->(dG x e=true->((0:Int)<=(x:Int)/\(IT ID e)[IJ (x:Int)]? = some (zr [HI,HX .i64] (IT ID e) (IJ (x:Int))))/\(dF e x nm=true->[IL true]=[IL (yt e nm)])/\(dF e x nm=false->∃(y:Nat),ja y e nm/\IR e - y<IR e - x/\(IT ID e=IT ID e/\nm=nm/\Hr .i64 ((x:Int)+1)=(y:Int)/\IN)/\IN))/\(dG x e=false->[IL false]=[IL (yt e nm)]))
 ·kernel_rfl
 delta ja dG dF;refine⟨0,⟨by omega,rfl⟩,by simp,λi hi=>⟨λhlt=>?_,λhge=>?_⟩⟩
 ·simp only[H4,HS]at hlt;obtain⟨z,hz,hm⟩:=zw (l:=e) (x:=i) (by omega);rw[HF,w6 hz,xE hz];have e2:Gc (IB (some (HW z.name)) default)=z.name:=rfl;rw[e2];refine⟨⟨by omega,by simp[hz]⟩,λh=>by rw[QG hm h],λh=>⟨i+1,⟨by omega,by rw[qB hz,hi.2,h];rfl⟩,by omega,?_⟩⟩;rw[zx (by omega) (by omega)];simp
 ·simp only[H4,HH]at hge;have h2:=hi.2;rw[Gs (by omega)]at h2;rw[h2]
abbrev QF (a:Nat) (b:En):Prop:=(0:Int)<=(a:Int)/\(IT ID b)[IJ (a:Int)]? = some (zr [HI,HX .i64] (IT ID b) (IJ (a:Int)))
theorem Iv (e:En) (nm:Nm) (hl:e.length<4611686018427387904):IK Tryz.prog G 260 [.sl (e.map ID),.str nm] (· = [.int .i64 (sortE e nm)]):=by
 refine zu (LL [(2,ze (α:=Nat) Tryz.prog G L0 0 (z8 (z6 Tryz.f260) 0) [0,1] (λi=>i<=e.length/\yt (e.take i) nm=false) (λi=>e.length - i) (λi=>[(5,.d (.int .i64 i))]) (λH _=>H))]) Tryz.func260 ⟨_,rfl⟩ (zt zz) ?_;apply @z7 _ (∃(x0:Nat),ja x0 e nm/\((IT ID e=IT ID e/\nm=nm/\(0:Int)=(x0:Int)/\IN)/\IN)/\∀(x:Nat),ja x e nm->(dG x e=true->QF x e/\(dF e x nm=true->QF x e/\[IP .i64 (Hf (IB (z1 (IT ID e) (IJ (x:Int)) (0+1)) default))]=[IP .i64 (sortE e nm)])/\(dF e x nm=false->∃(y:Nat),ja y e nm/\IR e - y<IR e - x/\(IT ID e=IT ID e/\nm=nm/\Hr .i64 ((x:Int)+1)=(y:Int)/\IN)/\IN))/\(dG x e=false->[IP .i64 0]=[IP .i64 (sortE e nm)]))
 ·kernel_rfl
 delta ja dG dF QF;refine⟨0,⟨by omega,rfl⟩,by simp,λi hi=>⟨λhlt=>?_,λhge=>?_⟩⟩
 ·simp only[H4,HS]at hlt;obtain⟨z,hz,hm⟩:=zw (l:=e) (x:=i) (by omega);rw[HF,w6 hz,xE hz,wr hz];have e2:Gc (IB (some (HW z.name)) default)=z.name:=rfl;have e3:Hf (IB (some (IP .i64 z.sort)) default)=z.sort:=rfl;rw[e2,e3];refine⟨⟨by omega,by simp[hz]⟩,λh=>⟨⟨by omega,by simp[hz]⟩,by rw[Rs hz hi.2 h]⟩,λh=>⟨i+1,⟨by omega,by rw[qB hz,hi.2,h];rfl⟩,by omega,?_⟩⟩;rw[zx (by omega) (by omega)];simp
 ·simp only[H4,HH]at hge;have h2:=hi.2;rw[Gs (by omega)]at h2;rw[WS h2]
abbrev g34q1:IU D:=[IP .i64 0]
abbrev gH (a:En) (b:Tm):IU D:=[IP .i64 (Hw (zV a b)),.int .i64 (HL (zV a b))]
abbrev YC (a:En) (b:Tm):Prop:=IP .i64 8::g34q1=gH a b
abbrev gG (a:En) (b:Tm):Prop:=[IP .i64 0,.int .i64 80]=gH a b
theorem KD (e:En) (t:Tm) (hl:e.length<4611686018427387904):IK Tryz.prog G 243 [.sl (e.map ID),t.d] (· = [.int .i64 (zV e t).1,.int .i64 (zV e t).2]):=by
 unfold Hq;refine zq Tryz.func243 ⟨_,rfl⟩ ?_;apply @z7 _ (((Gh t==1)=true->YC e t)/\((Gh t==1)=false->IK Tryz.prog G 175 [II (IT ID e),.str (GK t)] λ(rs:IU D)=>∃(b:Bool),rs=[IL b]/\((!b)=true->[IP .i64 0,.int .i64 81]=gH e t)/\((!b)=false->IK Tryz.prog G 260 [II (IT ID e),.str (GK t)] λ(rs:IU D)=>∃(n:Int),rs=[IP .i64 n]/\((Gh t==3)=true->((bif (2:Int) != 0 then n != 2 else false)=true->gG e t)/\((bif (2:Int) != 0 then n != 2 else false)=false->IP .i64 6::g34q1=gH e t))/\((Gh t==3)=false->((Gh t==4)=true->((bif (2:Int) != 0 then n != 2 else false)=true->gG e t)/\((bif (2:Int) != 0 then n != 2 else false)=false->YC e t))/\((Gh t==4)=false->((Gh t==5)=true->((bif (3:Int) != 0 then n != 3 else false)=true->gG e t)/\((bif (3:Int) != 0 then n != 3 else false)=false->IP .i64 7::g34q1=gH e t))/\((Gh t==5)=false->((Gh t==6)=true->((bif (3:Int) != 0 then n != 3 else false)=true->gG e t)/\((bif (3:Int) != 0 then n != 3 else false)=false->YC e t))/\((Gh t==6)=false->((Gh t==7)=true->((bif (1:Int) != 0 then n != 1 else false)=true->gG e t)/\((bif (1:Int) != 0 then n != 1 else false)=false->YC e t))/\((Gh t==7)=false->((bif (0:Int) != 0 then n != 0 else false)=true->gG e t)/\((bif (0:Int) != 0 then n != 0 else false)=false->IP .i64 n::g34q1=gH e t)))))))))
 ·kernel_rfl
 delta YC g34q1 gH gG;unfold zV;refine⟨λh=>by rw[Hv (by simpa using h)],λh=>?_⟩;have hk:¬ t.kind=1:=by simpa using h
 rw[IE hk];refine(KE e t.name hl).use ⟨_,rfl,λh=>by rw[Hv (by simpa using h)],λh=>?_⟩;have hh:yt e t.name=true:=by simpa using h
 rw[IE (by simp[hh])];refine(Iv e t.name hl).use ⟨_,rfl,?_⟩;have key:∀(a g:Int),ue t.kind=a->s9 t.kind (sortE e t.name)=g->a≠0->((bif a != 0 then sortE e t.name != a else false)=true->[IP .i64 0,IP .i64 80]=[IP .i64 (if ue t.kind≠0/\sortE e t.name≠ue t.kind then((0:Int),(80:Int))else(s9 t.kind (sortE e t.name),0)).1,IP .i64 (if ue t.kind≠0/\sortE e t.name≠ue t.kind then((0:Int),(80:Int))else(s9 t.kind (sortE e t.name),0)).2]) /\
   ((bif a != 0 then sortE e t.name != a else false)=false->[IP .i64 g,IP .i64 0]=[IP .i64 (if ue t.kind≠0/\sortE e t.name≠ue t.kind then((0:Int),(80:Int))else(s9 t.kind (sortE e t.name),0)).1,IP .i64 (if ue t.kind≠0/\sortE e t.name≠ue t.kind then((0:Int),(80:Int))else(s9 t.kind (sortE e t.name),0)).2]):=by
  intro a g ha hg h0;rw[ha,hg];have e0:(a != 0)=true:=by simpa using h0
  rw[e0];simp only[cond_true];refine⟨λh=>?_,λh=>?_⟩
  ·rw[Hv ⟨h0,by simpa using h⟩]
  ·rw[IE (λh2=>h2.2 (by simpa using h))]
 refine⟨λh=>?_,λh=>⟨λh=>?_,λh=>⟨λh=>?_,λh=>⟨λh=>?_,λh=>⟨λh=>?_,λh=>?_⟩⟩⟩⟩⟩
 ·have hk:t.kind=3:=by simpa using h
  exact key 2 6 (by rw[hk];rfl) (by rw[hk];rfl) (by decide)
 ·have hk:t.kind=4:=by simpa using h
  exact key 2 8 (by rw[hk];rfl) (by rw[hk];rfl) (by decide)
 ·have hk:t.kind=5:=by simpa using h
  exact key 3 7 (by rw[hk];rfl) (by rw[hk];rfl) (by decide)
 ·have hk:t.kind=6:=by simpa using h
  exact key 3 8 (by rw[hk];rfl) (by rw[hk];rfl) (by decide)
 ·have hk:t.kind=7:=by simpa using h
  exact key 1 8 (by rw[hk];rfl) (by rw[hk];rfl) (by decide)
 ·rename_i h3 h4 h5 h6;simp only[beq_eq_false_iff_ne]at h h3 h4 h5 h6;have ha:ue t.kind=0:=by unfold ue;rw[IE (by omega),IE (by omega),IE (by omega)]
  have hg:s9 t.kind (sortE e t.name)=sortE e t.name:=by unfold s9;rw[IE (by omega),IE (by omega),IE (by omega)]
  rw[ha,hg];refine⟨λh=>(by cases h),λ_=>?_⟩;rw[IE (by simp)]
abbrev gF (a:Int):IU D:=[IP .i64 (Hw (sZ a)),.int .i64 (HL (sZ a))]
theorem Iu (k:Int):IK Tryz.prog G 206 [.int .i64 k] (· = [.int .i64 (sZ k).1,.int .i64 (sZ k).2]):=by
 refine zq Tryz.func206 ⟨_,rfl⟩ ?_;apply @z7 _ (((k==3)=true->[IP .i64 1,.int .i64 2]=gF k)/\((k==3)=false->((k==4)=true->[IP .i64 1,.int .i64 3]=gF k)/\((k==4)=false->((k==5)=true->[IP .i64 4,.int .i64 1]=gF k)/\((k==5)=false->((k==6)=true->[IP .i64 5,.int .i64 1]=gF k)/\((k==6)=false->((k==7)=true->[IP .i64 4,.int .i64 2]=gF k)/\((k==7)=false->[IP .i64 3,.int .i64 2]=gF k))))))
 ·kernel_rfl
 delta gF;unfold sZ;refine⟨λh=>by rw[Hv (by simpa using h)],λh=>?_⟩;rw[IE (by simpa using h)];refine⟨λh=>by rw[Hv (by simpa using h)],λh=>?_⟩;rw[IE (by simpa using h)];refine⟨λh=>by rw[Hv (by simpa using h)],λh=>?_⟩;rw[IE (by simpa using h)];refine⟨λh=>by rw[Hv (by simpa using h)],λh=>?_⟩;rw[IE (by simpa using h)];refine⟨λh=>by rw[Hv (by simpa using h)],λh=>?_⟩;rw[IE (by simpa using h)]
end
def wp (e:En):IU Tm->IU Int->IU Int×Int
  |[],out=>(out,0)
  |t::r,out=>if(zV e t).2≠0 then([],(zV e t).2)else wp e r (out++[(zV e t).1])
def vA (e:En):IU Tm->IU Int->Int
  |t::r,w::ws=>if mb e t w≠0 then mb e t w else vA e r ws
  |_,_=>0
theorem ye {α:Type}{l:IU α}{i:Nat}{z:α}(h:l[i]? = some z):l.drop i=z::l.drop (i+1):=by
  have hlt:i<l.length:=by
    rcases G4 i l.length with h' |h'
    · exact h'
    · rw[Gt h']at h;cases h
  rw[Ff hlt]at h;cases h;exact At hlt
def intD (n:Int):D:= .int .i64 n
theorem u0 (l:IU Int):((l.map intD).all λd=>d.cells.length==1)=true:=by rw[G3];intro d hd;obtain⟨t,_,rfl⟩:=Gd.1 hd;rfl
theorem QE (l:IU Int) (n:Int) (h:l.length<1000000):FA (l.map intD) [IP .i64 n] 1 8:=by have:=u0 l;refine⟨by rw[Fb,this];rfl,?_⟩;simp;omega
theorem QD {wa wb w:Int}{i:Nat}(h:[wa,wb][i]? = some w):z1 [IP .i64 wa,IP .i64 wb] i 0=some (.int .i64 w):=by
  match i,h with
  |0,h=>simp at h;subst h;rfl
  |1,h=>simp at h;subst h;rfl
theorem NY {wa wb w:Int}{i:Nat}(h:[wa,wb][i]? = some w):[IP .i64 wa,IP .i64 wb][i]? = some (.int .i64 w):=by
  match i,h with
  |0,h=>simp at h;subst h;rfl
  |1,h=>simp at h;subst h;rfl
theorem yK {l:IU Int}{i:Nat}{z:Int}(h:l[i]? = some z):z1 (l.map intD) i 0=some (.int .i64 z):=by simp[z1,h,intD,Gq]
theorem gE {f:Fm}(hf:f.formB=true) (hk0:zC f.kind=true):f.ts.all yL=true:=by
  have h2:=ir hf hk0;have hs:=vx hf;cases hs with
  |atom k a b hk ha hb=>simp[HM,ha,hb]
  |cmp s a b hs ha hb=>simp[HM,ha,hb]
  |const k hk=>simp[HM]at h2
  |not x hx=>simp[HM]at h2
  |two k x y hk hx hy=>simp[HM]at h2
  |quant k bs x hk hb h1 h6 hx=>simp[HM]at h2
  |count k n bs x hk h0 hn hb h1 h6 hx=>simp[HM]at h2
theorem Rr {t:Tm}(h:yL t=true) (h1:¬ t.kind=1) (h2:¬ t.kind=2):t.kind=3∨t.kind=4∨t.kind=5∨t.kind=6∨t.kind=7:=by unfold yL at h;rw[IE h1]at h;simp only[HC,HS]at h;omega
section
variable {G:Nat->IQ (IU D)}{M:Gf}
abbrev dE (a:En) (b:Tm):IU D:=[IP .i64 (Hw (zV a b)),.int .i64 (HL (zV a b))]
abbrev QC (a:Int) (b:En):Prop:=0<=a/\(IT ID b)[IJ a]? = some (zr [HI,HX .i64] (IT ID b) (IJ a))
abbrev dD (a:Tm):Nat:=IJ (Gh a)*2
abbrev QB (a:Tm):D:=IP .i64 (Hf (IB (vk takL)[dD a]? default))
abbrev QA (a:Tm):IU D:=[IP .i64 (Hf (IB (vk takL)[dD a+1]? default))]
abbrev P0 (a:Tm):Prop:=(0<=Gh a/\Gh a<(↑8:Int))/\HZ 2 (GM (dD a) (vk takL))=QB a::QA a
abbrev P1 (a:Tm):Int:=Hf (IB (rowFrom ((λ(s:IU Sh)=>zyY (G8 2 s)) [HX .i64]) (vk takL) (dD a))[0]? default)
abbrev P2 (a:Tm) (b:En) (c:Int):Bool:=P1 a != Hf (IB (z1 (IT ID b) (IJ c) 1) default)
abbrev P3 (a:Tm):D:=IP .i64 (Hf (IB (rowFrom ((λ(s:IU Sh)=>zyY (G8 2 s)) [HX .i64]) (vk takL) (dD a))[1]? default))
theorem KC (e:En) (t:Tm) (ht:yL t=true) (hl:e.length<4611686018427387904):IK Tryz.prog (GG M) 195 [.sl (e.map ID),t.d] (· = [.int .i64 (zV e t).1,.int .i64 (zV e t).2]):=by
  unfold Hq;refine zq Tryz.func195 ⟨_,rfl⟩ ?_;apply @z7 _ (((Gh t==1)=true->[IP .i64 8,.int .i64 0]=dE e t)/\((Gh t==1)=false->IK Tryz.prog (GG M) 193 [II (IT ID e),.str (GK t)] λ(rs:IU D)=>∃(n:Int),rs=[IP .i64 n]/\(decide (n<0)=true->[IP .i64 0,.int .i64 81]=dE e t)/\(decide (n<0)=false->((Gh t==2)=true->QC n e/\[IP .i64 (Hf (IB (z1 (IT ID e) (IJ n) (0+1)) default)),.int .i64 0]=dE e t)/\((Gh t==2)=false->P0 t/\(((0:Int)<=0/\(0:Int)<(↑2:Int))/\[QB t]=[IP .i64 (P1 t)])/\QC n e/\(P2 t e n=true->[IP .i64 0,.int .i64 80]=dE e t)/\(P2 t e n=false->P0 t/\(((0:Int)<=1/\(1:Int)<(↑2:Int))/\QA t=[P3 t])/\[P3 t,.int .i64 0]=dE e t)))))
  · kernel_rfl
  delta dE QC P0 dD QB QA P1 P2 P3;unfold zV;refine⟨λh=>by rw[Hv (by simpa using h)],λh=>?_⟩;have hk1:¬ t.kind=1:=by simpa using h
  rw[IE hk1];refine(KH e t.name hl).use ⟨_,rfl,?_⟩;rw[Rv];refine⟨λh=>by rw[Hv (by simpa using h)],λh=>?_⟩;have hh:yt e t.name=true:=by simpa using h
  rw[IE (by simp[hh])];obtain⟨i,z,h1,h2,h3⟩:=o6 hh;have hfi:vM e t.name=i:=by unfold vM;rw[h1]
  rw[hfi,HF,w6 h2,wr h2,←h3];have e3:Hf (IB (some (IP .i64 z.sort)) default)=z.sort:=rfl;rw[e3];have hget:(IT ID e)[i]? = some z.d:=by simp[h2]
  have key:∀(a g:Int),ue t.kind=a->s9 t.kind z.sort=g->a≠0->((a != z.sort)=true->[IP .i64 0,IP .i64 80]=[IP .i64 (if ue t.kind≠0/\z.sort≠ue t.kind then((0:Int),(80:Int))else(s9 t.kind z.sort,0)).1,IP .i64 (if ue t.kind≠0/\z.sort≠ue t.kind then((0:Int),(80:Int))else(s9 t.kind z.sort,0)).2]) /\
      ((a != z.sort)=false->[IP .i64 g,IP .i64 0]=[IP .i64 (if ue t.kind≠0/\z.sort≠ue t.kind then((0:Int),(80:Int))else(s9 t.kind z.sort,0)).1,IP .i64 (if ue t.kind≠0/\z.sort≠ue t.kind then((0:Int),(80:Int))else(s9 t.kind z.sort,0)).2]):=by
    intro a g ha hg h0;rw[ha,hg];refine⟨λh=>?_,λh=>?_⟩
    · have h':a≠z.sort:=by simpa using h
      rw[Hv ⟨h0,λe=>h' e.symm⟩]
    · have h':a=z.sort:=by simpa using h
      rw[IE (λh2=>h2.2 h'.symm)]
  refine⟨λhk2=>⟨⟨by omega,hget⟩,?_⟩,λhk2=>?_⟩
  · have hk:t.kind=2:=by simpa using hk2
    rw[hk];have ha:ue 2=0:=rfl;rw[ha,IE (by simp)];rfl
  · rcases Rr ht hk1 (by simpa using hk2)with hk|hk|hk|hk|hk
    · have k1:=key 2 6 (by rw[hk];rfl) (by rw[hk];rfl) (by decide)
      rw[hk]at k1 ⊢;exact⟨⟨⟨by decide,by decide⟩,rfl⟩,⟨⟨by decide,by decide⟩,rfl⟩,⟨by omega,hget⟩,λh=>k1.1 h,λh=>⟨⟨⟨by decide,by decide⟩,rfl⟩,⟨⟨by decide,by decide⟩,rfl⟩,k1.2 h⟩⟩
    · have k1:=key 2 8 (by rw[hk];rfl) (by rw[hk];rfl) (by decide)
      rw[hk]at k1 ⊢;exact⟨⟨⟨by decide,by decide⟩,rfl⟩,⟨⟨by decide,by decide⟩,rfl⟩,⟨by omega,hget⟩,λh=>k1.1 h,λh=>⟨⟨⟨by decide,by decide⟩,rfl⟩,⟨⟨by decide,by decide⟩,rfl⟩,k1.2 h⟩⟩
    · have k1:=key 3 7 (by rw[hk];rfl) (by rw[hk];rfl) (by decide)
      rw[hk]at k1 ⊢;exact⟨⟨⟨by decide,by decide⟩,rfl⟩,⟨⟨by decide,by decide⟩,rfl⟩,⟨by omega,hget⟩,λh=>k1.1 h,λh=>⟨⟨⟨by decide,by decide⟩,rfl⟩,⟨⟨by decide,by decide⟩,rfl⟩,k1.2 h⟩⟩
    · have k1:=key 3 8 (by rw[hk];rfl) (by rw[hk];rfl) (by decide)
      rw[hk]at k1 ⊢;exact⟨⟨⟨by decide,by decide⟩,rfl⟩,⟨⟨by decide,by decide⟩,rfl⟩,⟨by omega,hget⟩,λh=>k1.1 h,λh=>⟨⟨⟨by decide,by decide⟩,rfl⟩,⟨⟨by decide,by decide⟩,rfl⟩,k1.2 h⟩⟩
    · have k1:=key 1 8 (by rw[hk];rfl) (by rw[hk];rfl) (by decide)
      rw[hk]at k1 ⊢;exact⟨⟨⟨by decide,by decide⟩,rfl⟩,⟨⟨by decide,by decide⟩,rfl⟩,⟨by omega,hget⟩,λh=>k1.1 h,λh=>⟨⟨⟨by decide,by decide⟩,rfl⟩,⟨⟨by decide,by decide⟩,rfl⟩,k1.2 h⟩⟩
abbrev u3 (a:En) (b:Nat) (c:IU Tm):IU Int:=IT (λ(t:Tm)=>Hw (zV a t)) (HZ b c)
abbrev qA (a:Nat) (b:IU Tm) (c:En):Prop:=a<=IR b/\wp c (GM a b) (u3 c a b)=wp c b []
abbrev u5 (a:IU Tm):Prop:=IT Hq a=IT Hq a
abbrev rD (a:En):Prop:=Gg 195 [IH (.sl (IT ID a))] []=Gg 195 [IH (.sl (IT ID a))] []
abbrev nS (a:IU Tm) (b:Nat):D:=zr [HX .i64,HI,HX .i64] (IT Hq a) (IJ (b:Int))
abbrev xx (a:Int):IU D:=[IP .i64 a]
abbrev nR (a:Int) (b:Nat) (c:Int):Bool:=bif bif a==0 then !true else false then Hf (IB (z1 [] (IJ (b:Int)) 0) default) != c else false
abbrev p8 (a:En) (b:IU Tm):IU D:=[II (IT intD (Hw (wp a b []))),.int .i64 (HL (wp a b []))]
abbrev nQ (a:Nat) (b:En) (c:IU Tm) (d:Int):Prop:=(a=IR (IT intD (u3 b a c))/\1=1/\FA (IT intD (u3 b a c)) (xx d) (nat_lit 1) (nat_lit 8))/\∃(y:Nat),qA y c b/\IR c - y<IR c - a/\(u5 c/\rD b/\A6=A6/\IT intD (u3 b a c)++G6 [Wz false (xx d)]=IT intD (u3 b y c)/\(0:Int)=0/\u5 c/\(↑(IR (IT Hq c)):Int)=(↑(IR (IT Hq c)):Int)/\Hr .i64 ((a:Int)+1)=(y:Int)/\IN)/\IR (IT intD (u3 b a c))+IR (G6 [Wz false (xx d)])=y/\IN
theorem KB (e:En) (ts:IU Tm) (ht:ts.all yL=true) (hl:e.length<4611686018427387904) (hts:ts.length<1000):HY Tryz.prog (GG M) 194 [.d (.sl (ts.map Hq)),.clo 195 [.d (.sl (e.map ID))] [],.nils] [] (λrs H'=>rs=[.sl ((wp e ts []).1.map intD),.int .i64 (wp e ts []).2]/\H'=[]):=by
  refine zZ (LL [(2,ze (α:=Nat) Tryz.prog (GG M) L0 0 (z8 (z6 Tryz.f194) 0) [0,1,2,7,12,13] (λi=>i<=ts.length/\wp e (ts.drop i) ((ts.take i).map λt=>(zV e t).1)=wp e ts []) (λi=>ts.length - i) (λi=>[(14,.d (.int .i64 i)),(6,.vec 0 (((ts.take i).map λt=>(zV e t).1).map intD))]) (λ_ i=>[.vec i 1]))]) Tryz.func194 rfl ⟨_,_,rfl,rfl⟩ (zt zz) ?_;apply @z7 _ (∃(x0:Nat),qA x0 ts e/\((u5 ts/\rD e/\A6=A6/\([]=IT intD (u3 e x0 ts)/\IR ([]:IU D)<=x0)/\(0:Int)=0/\u5 ts/\(↑(IR (IT Hq ts)):Int)=(↑(IR (IT Hq ts)):Int)/\(0:Int)=(x0:Int)/\IN)/\IN)/\∀(x:Nat),qA x ts e->(decide ((x:Int)<(↑(IR (IT Hq ts)):Int))=true->((0:Int)<=(x:Int)/\(IT Hq ts)[IJ (x:Int)]? = some (nS ts x))/\IK Tryz.prog (GG M) 195 [II (IT ID e),nS ts x] λ(rs:IU D)=>∃(n:Int)(n_1:Int),rs=IP .i64 n::xx n_1/\((bif n_1==0 then !true else false)=true->(0:Int)<=(x:Int)/\none=some (IP .i64 (Int.ofNat (nat_lit 0))))/\(nR n_1 x n=true->(((80:Int) != 0)=true->[II [],.int .i64 80]=p8 e ts/\([]:IU Box)=[])/\(((80: Int) != 0)=false->nQ x e ts n))/\(nR n_1 x n=false->((n_1 != 0)=true->II []::xx n_1=p8 e ts/\([]:IU Box)=[])/\((n_1 != 0)=false->nQ x e ts n)))/\(decide ((x:Int)<(↑(IR (IT Hq ts)):Int))=false->[II (IT intD (u3 e x ts)),.int .i64 0]=p8 e ts/\([]:IU Box)=[]))
  · kernel_rfl
  delta qA u3 u5 rD nS xx nR p8 nQ;refine⟨0,⟨by omega,rfl⟩,⟨⟨rfl,rfl,rfl,⟨rfl,by simp⟩,rfl,rfl,rfl,rfl,trivial⟩,trivial⟩,λi hi=>⟨λhlt=>?_,λhge=>?_⟩⟩
  · simp only[H4,HS]at hlt
    obtain⟨z,hz,hm⟩:=zw (l:=ts) (x:=i) (by omega);rw[HF,uS hz];have hi2:=hi.2;rw[ye hz,wp]at hi2;have hno:∀b:Bool,(bif b then !true else false)=false:=by intro b;cases b<;>rfl
    refine⟨⟨by omega,by simp[hz]⟩,?_⟩;refine(KC e z (G3.1 ht z hm) hl).use ⟨_,_,rfl,λh=>?_,λh=>?_,λ_=>⟨λh=>?_,λh=>?_⟩⟩
    · rw[hno]at h;cases h
    · rw[hno]at h;cases h
    · rw[Hv (by simpa using h)]at hi2
      rw[←hi2];exact⟨rfl,rfl⟩
    · rw[IE (by simpa using h)]at hi2
      have hlen:(IT (λt=>(zV e t).1) (HZ i ts)).length=i:=by simp;omega
      have hnx:(HZ (i+1) ts).map (λt=>(zV e t).1)=(HZ i ts).map (λt=>(zV e t).1)++[(zV e z).1]:=by rw[GN,hz];simp
      refine⟨⟨by rw[H4,hlen],rfl,QE _ _ (by rw[hlen];omega)⟩,i+1,⟨by omega,by rw[hnx];exact hi2⟩,by omega,⟨rfl,rfl,rfl,?_,rfl,rfl,rfl,?_,trivial⟩,?_,trivial⟩
      · rw[hnx,GI];rfl
      · rw[zx (by omega) (by omega)];simp
      · rw[H4,hlen];rfl
  · simp only[H4,HH]at hge
    have hi2:=hi.2;rw[Fx (by omega),wp]at hi2;rw[←hi2];exact⟨rfl,rfl⟩
abbrev bS (a:Nat×IU Int) (b:IU Tm) (c:En) (d:Int) (e:Int):Prop:=Hw a<=IR b/\IR (HL a)=Hw a/\vA c (GM (Hw a) b) (GM (Hw a) [d,e])=vA c b [d,e]
abbrev sY (a:Int) (b:Int):IU D:=IP .i64 a::xx b
abbrev p9 (a:Nat×IU Int):IU D:=IT intD (HL a)
abbrev nP (a:Nat×IU Int):Nat:=IJ (↑(Hw a):Int)
abbrev WR (a:IU Tm) (b:Nat×IU Int):D:=zr [HX .i64,HI,HX .i64] (IT Hq a) (nP b)
abbrev bQ (a:IU Int) (b:En) (c:IU Tm) (d:Int) (e:Int):IU D:=[II (IT intD a),.int .i64 (vA b c [d,e])]
abbrev WQ (a:Nat×IU Int) (b:Int) (c:IU Tm) (d:En) (e:Int) (f:Int):Prop:=(Hw a=IR (p9 a)/\1=1/\FA (p9 a) (xx b) (nat_lit 1) (nat_lit 8))/\∃(y:Nat×IU Int),bS y c d e f/\IR c - Hw y<IR c - Hw a/\(u5 c/\rD d/\sY e f=sY e f/\p9 a++G6 [Wz false (xx b)]=p9 y/\(0:Int)=0/\u5 c/\(↑(IR (IT Hq c)):Int)=(↑(IR (IT Hq c)):Int)/\Hr .i64 ((↑(Hw a):Int)+1)=(↑(Hw y):Int)/\IN)/\IR (p9 a)+IR (G6 [Wz false (xx b)])=Hw y/\IN
theorem Rq (e:En) (ts:IU Tm) (wa wb:Int) (ht:ts.all yL=true) (hl:e.length<4611686018427387904) (hts:ts.length=2):HY Tryz.prog (GG M) 194 [.d (.sl (ts.map Hq)),.clo 195 [.d (.sl (e.map ID))] [],.d (.sl [.int .i64 wa,.int .i64 wb])] [] (λrs H'=>(∃l:IU Int,rs=[.sl (l.map intD),.int .i64 (vA e ts [wa,wb])])/\H'=[]):=by
  refine zZ (LL [(2,ze (α:=Nat×IU Int) Tryz.prog (GG M) L0 0 (z8 (z6 Tryz.f194) 0) [0,1,2,7,12,13] (λi=>i.1<=ts.length/\i.2.length=i.1/\vA e (ts.drop i.1) ([wa,wb].drop i.1)=vA e ts [wa,wb]) (λi=>ts.length - i.1) (λi=>[(14,.d (.int .i64 i.1)),(6,.vec 0 (i.2.map intD))]) (λ_ i=>[.vec i.1 1]))]) Tryz.func194 rfl ⟨_,_,⟨[],rfl⟩,rfl⟩ (zt zz) ?_;apply @z7 _ (∃(x0:Nat×IU Int),bS x0 ts e wa wb/\((u5 ts/\rD e/\sY wa wb=sY wa wb/\([]=p9 x0/\IR ([]:IU D)<=Hw x0)/\(0:Int)=0/\u5 ts/\(↑(IR (IT Hq ts)):Int)=(↑(IR (IT Hq ts)):Int)/\(0:Int)=(↑(Hw x0):Int)/\IN)/\IN)/\∀(x:Nat×IU Int),bS x ts e wa wb->(decide ((↑(Hw x):Int)<(↑(IR (IT Hq ts)):Int))=true->((0:Int)<=(↑(Hw x):Int)/\(IT Hq ts)[nP x]? = some (WR ts x))/\IK Tryz.prog (GG M) 195 [II (IT ID e),WR ts x] λ(rs:IU D)=>∃(n:Int)(n_1:Int),rs=sY n n_1/\((bif n_1==0 then !false else false)=true->(0:Int)<=(↑(Hw x):Int)/\(sY wa wb)[nP x]? = some (IP .i64 (Hf (IB (z1 (sY wa wb) (nP x) 0) default))))/\((bif bif n_1==0 then !false else false then Hf (IB (z1 (sY wa wb) (nP x) 0) default) != n else false)=true->(((80:Int) != 0)=true->(∃(l:IU Int),[II [],.int .i64 80]=bQ l e ts wa wb)/\([]:IU Box)=[])/\(((80:Int) != 0)=false->WQ x n ts e wa wb))/\((bif bif n_1==0 then !false else false then Hf (IB (z1 (sY wa wb) (nP x) 0) default) != n else false)=false->((n_1 != 0)=true->(∃(l:IU Int),.sl []::xx n_1=bQ l e ts wa wb)/\([]:IU Box)=[])/\((n_1 != 0)=false->WQ x n ts e wa wb)))/\(decide ((↑(Hw x):Int)<(↑(IR (IT Hq ts)):Int))=false->(∃(l:IU Int),[II (p9 x),.int .i64 0]=bQ l e ts wa wb)/\([]:IU Box)=[]))
  · kernel_rfl
  delta bS u5 qA u3 rD nS xx nR p8 nQ sY p9 nP WR bQ WQ;refine⟨(0,[]),⟨by simp,rfl,rfl⟩,⟨⟨rfl,rfl,rfl,⟨rfl,by simp⟩,rfl,rfl,rfl,rfl,trivial⟩,trivial⟩,?_⟩;rintro⟨i,out⟩ ⟨hi,ho,hi2⟩;dsimp only at hi ho hi2 ⊢;refine⟨λhlt=>?_,λhge=>?_⟩
  · simp only[H4,HS]at hlt
    obtain⟨z,hz,hm⟩:=zw (l:=ts) (x:=i) (by omega);obtain⟨w,hw,_⟩:=zw (l:=[wa,wb]) (x:=i) (by simp;omega);rw[HF,uS hz,QD hw];have e3:Hf (IB (some (IP .i64 w)) default)=w:=rfl;rw[e3];rw[ye hz,ye hw,vA]at hi2;refine⟨⟨by omega,by simp[hz]⟩,?_⟩;have goOn:mb e z w=0->(i=(IT intD out).length/\1=1/\FA (IT intD out) [IP .i64 (zV e z).1] 1 8)/\∃y:Nat×IU Int,(y.1<=ts.length/\y.2.length=y.1/\vA e (GM y.1 ts) (GM y.1 [wa,wb])=vA e ts [wa,wb])/\ts.length - y.1<ts.length - i /\
        (IT Hq ts=IT Hq ts/\Gg 195 [IH (II (IT ID e))] []=Gg 195 [IH (II (IT ID e))] []/\[IP .i64 wa,IP .i64 wb]=[IP .i64 wa,IP .i64 wb]/\IT intD out++[Wz false [IP .i64 (zV e z).1]].reverse=IT intD y.2/\(0:Int)=0/\IT Hq ts=IT Hq ts/\((IT Hq ts).length:Int)=((IT Hq ts).length:Int)/\Ho.wrap ((i:Int)+1)=(y.1:Int)/\IN)/\(IT intD out).length+[Wz false [IP .i64 (zV e z).1]].reverse.length=y.1/\IN:=by
      intro h0;rw[IE (by simp[h0])]at hi2;refine⟨⟨by rw[H4,ho],rfl,QE _ _ (by omega)⟩,(i+1,out++[(zV e z).1]),⟨by simp only;omega,by simp[ho],hi2⟩,by simp only;omega,⟨rfl,rfl,rfl,?_,rfl,rfl,rfl,?_,trivial⟩,?_,trivial⟩
      · rw[GI];rfl
      · rw[zx (by omega) (by omega)];simp
      · rw[H4,ho];rfl
    refine(KC e z (G3.1 ht z hm) hl).use ⟨_,_,rfl,λ_=>⟨by omega,NY hw⟩,λh=>⟨λ_=>?_,λh=>(by cases h)⟩,λh=>⟨λh2=>?_,λh2=>?_⟩⟩
    · have h0:mb e z w=80:=by
        unfold mb;rw[Hv];cases hb:(zV e z).2==0 with
        |false=>rw[hb]at h;cases h
        |true =>
          rw[hb]at h;have h5:¬ w=(zV e z).1:=by simpa using h
          exact⟨by simpa using hb,λh6=>h5 h6.symm⟩
      rw[Hv (by rw[h0];decide),h0]at hi2;exact⟨⟨[],by rw[←hi2];rfl⟩,rfl⟩
    · have hne:¬ (zV e z).2=0:=by simpa using h2
      have h0:mb e z w=(zV e z).2:=by unfold mb;rw[IE (λh3=>hne h3.1)]
      rw[Hv (by rw[h0];exact hne),h0]at hi2;exact⟨⟨[],by rw[←hi2];rfl⟩,rfl⟩
    · have he0:(zV e z).2=0:=by simpa using h2
      refine goOn ?_;unfold mb;rw[he0]at h ⊢;rw[IE];rintro⟨_,h4⟩;have:(bif bif (0:Int)==0 then !false else false then w != (zV e z).1 else false)=(w != (zV e z).1):=rfl;rw[this]at h;exact h4 (by simpa using h:w=(zV e z).1).symm
  · simp only[H4,HH]at hge
    have h2:vA e ts [wa,wb]=0:=by rw[Fx (by omega)]at hi2;rw[←hi2];rfl
    exact⟨⟨out,by rw[h2]⟩,rfl⟩
abbrev Tl (a:Nat) (b:IU Int) (c:Int):Prop:=a<=IR b/\DI (HZ a b) c=false
abbrev Tk (a:IU Int) (b:Nat):Int:=Hf (IB (z1 (IT intD a) (IJ (b:Int)) 0) default)
theorem It (l:IU Int) (n:Int) (hl:l.length<4611686018427387904):IK Tryz.prog G 123 [.sl (l.map intD),.int .i64 n] (λrs=>∃r:Int,rs=[.int .i64 r]/\decide (r>=0)=l.contains n):=by
  refine zu (LL [(2,ze (α:=Nat) Tryz.prog G L0 0 (z8 (z6 Tryz.f123) 0) [0,1,7] (λi=>i<=l.length/\(l.take i).contains n=false) (λi=>l.length - i) (λi=>[(8,.d (.int .i64 i))]) (λH _=>H))]) Tryz.func123 ⟨_,if l.contains n then 0 else -1,rfl,by cases l.contains n<;>rfl⟩ (zt zz) ?_;apply @z7 _ (∃(x0:Nat),Tl x0 l n/\((IT intD l=IT intD l/\n=n/\(↑(IR (IT intD l)):Int)=(↑(IR (IT intD l)):Int)/\(0:Int)=(x0:Int)/\IN)/\IN)/\∀(x:Nat),Tl x l n->(decide ((x:Int)<(↑(IR (IT intD l)):Int))=true->((0:Int)<=(x:Int)/\(IT intD l)[IJ (x:Int)]? = some (IP .i64 (Tk l x)))/\((n==Tk l x)=true->∃(r:Int),[IP .i64 (x:Int)]=xx r/\decide (r>=0)=DI l n)/\((n==Tk l x)=false->∃(y:Nat),Tl y l n/\IR l - y<IR l - x/\(IT intD l=IT intD l/\n=n/\(↑(IR (IT intD l)):Int)=(↑(IR (IT intD l)):Int)/\Hr .i64 ((x:Int)+1)=(y:Int)/\IN)/\IN))/\(decide ((x:Int)<(↑(IR (IT intD l)):Int))=false->∃(r: Int),[IP .i64 (-1)]=xx r/\decide (r>=0)=DI l n))
  · kernel_rfl
  delta Tl Tk xx qA u3 u5 rD nS nR p8 nQ;refine⟨0,⟨by omega,rfl⟩,by simp,λi hi=>⟨λhlt=>?_,λhge=>?_⟩⟩
  · simp only[H4,HS]at hlt
    obtain⟨z,hz,hm⟩:=zw (l:=l) (x:=i) (by omega);rw[HF,yK hz];have e3:Hf (IB (some (IP .i64 z)) default)=z:=rfl;rw[e3];refine⟨⟨by omega,by simp[hz,intD]⟩,λh=>⟨_,rfl,?_⟩,λh=>⟨i+1,⟨by omega,?_⟩,by omega,?_⟩⟩
    · have hn:n=z:=by simpa using h
      have:l.contains n=true:=by rw[hn];simpa using hm
      rw[this];simp
    · have hn:¬ n=z:=by simpa using h
      have h2:=hi.2;rw[GN,hz];simp only[Cf,Ao,FK,CB,HH]at h2 ⊢;rintro (h3|h3)
      · exact h2 h3
      · exact hn h3
    · rw[zx (by omega) (by omega)];simp
  · simp only[H4,HH]at hge
    have h2:=hi.2;rw[Gs (by omega)]at h2;exact⟨_,rfl,by rw[h2];rfl⟩
theorem N6 (l:IU Int) (n:Int) (hl:l.length<4611686018427387904):IK Tryz.prog G 76 [.sl (l.map intD),.int .i64 n] (· = [.bool (l.contains n)]):=by
  refine zq Tryz.func76 ⟨_,rfl⟩ ?_;apply @z7 _ (IK Tryz.prog G 123 (II (IT intD l)::xx n) λ(rs:IU D)=>∃(n_1:Int),rs=xx n_1/\[IL (decide (n_1>=0))]=[IL (DI l n)])
  · kernel_rfl
  delta xx qA u3 u5 rD nS nR p8 nQ;refine(It l n hl).mono ?_;rintro rs ⟨r,rfl,hr⟩;exact⟨r,rfl,by rw[hr]⟩
abbrev dC (a:Fm) (b:En):IU D:=[IP .i64 (Fm.ty a b)]
abbrev bP (a:Int) (b:Fm) (c:En):Prop:=xx a=dC b c
abbrev WP (a:IU D):D:=IP .i64 (Hf (IB (z1 a (IJ 0) 0) default))
abbrev WO (a:IU D):Prop:=(0:Int)<=0/\a[IJ 0]? = some (WP a)
abbrev P4 (a:IU D) (b:Bool) (c:Fm):Bool:=bif Hf (IB (z1 a (IJ 0) 0) default) != Hf (IB (z1 a (IJ 1) 0) default)then true else !bif bif b then true else HE c==Gx (Gy (Gu #[(61:UInt8)]))then true else HE c==Gx (Gy (Gu #[(33:UInt8),(61:UInt8)]))
abbrev WN (a:Fm):IU D:=[IP .i64 (Hf (IB (vk askL)[IJ (Hj a)*2]? default)),.int .i64 (Hf (IB (vk askL)[IJ (Hj a)*2+1]? default))]
abbrev sx (a:En) (b:Nat) (c:Fm):En:=a++HZ b (HN c)
abbrev bO (a:Nat) (b:Fm) (c:En):Prop:=a<=IR (HN b)/\sE c (HN b)=sE (sx c a b) (GM a (HN b))
abbrev YB (a:En):Prop:=IT ID a=IT ID a
abbrev pz (a:En) (b:Nat):Nat:=IR a+b
abbrev Tj (a:Fm):Prop:=IT ID (HN a)=IT ID (HN a)
abbrev gD (a:Fm):Int:=(↑(IR (IT ID (HN a))):Int)
abbrev bN (a:Fm):Prop:=IT HV (Hz a)=IT HV (Hz a)
abbrev gC (a:Fm):Prop:=Hj a=Hj a/\HE a=HE a/\HB a=HB a/\IT Hq (HM a)=IT Hq (HM a)/\Tj a/\bN a/\IN
abbrev P5 (a:Fm) (b:Nat):D:=zr [HI,HX .i64] (IT ID (HN a)) (IJ (b:Int))
abbrev WM (a:Fm) (b:Nat):IU D:=G6 [Hd (G6 [(λ(x:Sh×Nat)=>match x with|(sh,j)=>GP sh (IB (z1 (IT ID (HN a)) (IJ (b:Int)) j) default)) (HX .i64,0+1),(λ(x:Sh×Nat)=>match x with|(sh,j)=>GP sh (IB (z1 (IT ID (HN a)) (IJ (b:Int)) j) default)) (HI,0)])]
abbrev P6 (a:Nat) (b:Nat):Prop:=Hr .i64 ((a:Int)+1)=(b:Int)/\IN
abbrev bM (a:Nat) (b:Fm) (c:En):Prop:=a<=IR (Hz b)/\Eu (GM a (Hz b)) (c++HN b)=Eu (Hz b) (c++HN b)
abbrev nO (a:Fm):Int:=(↑(IR (IT HV (Hz a))):Int)
abbrev P7 (a:Fm) (b:Nat):D:=zr [HX .i64,HI,HX .i64,HK,HK,HK] (IT HV (Hz a)) (IJ (b:Int))
theorem I2 (f:Fm) (hf:f.formB=true) (e:En) (hw:e.length+f.wt<1099511627776):IK Tryz.prog (GG M) 155 [.sl (e.map ID),f.d] (· = [.int .i64 (f.ty e)]):=by
  induction f using Ex generalizing e with
  |h f ih =>
  rw[yf f];refine zu (LL [(14,ze (α:=Nat) Tryz.prog (GG M) L0 0 (z8 (z6 Tryz.f155) 0) [0,3,78,79] (λi=>i<=f.bs.length/\sE e f.bs=sE (e++f.bs.take i) (f.bs.drop i)) (λi=>f.bs.length - i) (λi=>[(80,.d (.int .i64 i)),(10,.vec 1 ((e++f.bs.take i).map ID))]) (λH i=>[H.getD 0 .dead,.vec (e.length+i) 2])),(21,ze (α:=Nat) Tryz.prog (GG M) L0 0 (z8 (z6 Tryz.f155) 1) [0,3,10,95,96] (λi=>i<=f.l.length/\Eu (f.l.drop i) (e++f.bs)=Eu f.l (e++f.bs)) (λi=>f.l.length - i) (λi=>[(97,.d (.int .i64 i))]) (λH i=>[H.getD 0 .dead,H.getD 1 .dead]))]) Tryz.func155 ⟨_,rfl⟩ (pA zz zz) ?_;have hty:=f.ty_eq e;have hwt:=f.wt_eq;have hwl:=rG f.l;have hall:∀x∈f.l,x.formB=true:=by rw[f.formB_eq,wq,HC]at hf;exact G3.1 hf.2
  apply @z7 _ (((Hj f==9)=true->HY Tryz.prog (GG M) 194 [IH (.sl (IT Hq (HM f))),.clo 195 [IH (.sl (IT ID e))] [],.nils] [] λ(rs:IU D) (H':IU Box)=>∃(l:IU D)(n:Int),rs=II l::xx n/\H'=[]/\((n != 0)=true->bP n f e)/\((n != 0)=false->WO l/\IK Tryz.prog (GG M) 76 [II [IP .i64 8,.int .i64 2,.int .i64 6],WP l] λ(rs:IU D)=>∃(b:Bool),rs=[IL b]/\WO l/\((0:Int)<=1/\l[IJ 1]? = some (IP .i64 (Hf (IB (z1 l (IJ 1) 0) default))))/\(P4 l b f=true->[IP .i64 80]=dC f e)/\(P4 l b f=false->[IP .i64 0]=dC f e)))/\((Hj f==9)=false->(decide ((↑(IR (IT Hq (HM f))):Int)>0)=true->((0<=Hj f/\Hj f<(↑9:Int))/\HZ 2 (GM (IJ (Hj f)*2) (vk askL)) = WN f)/\IN/\HY Tryz.prog (GG M) 194 [IH (.sl (IT Hq (HM f))),.clo 195 [IH (.sl (IT ID e))] [],.d (.sl (WN f))] [] λ(rs:IU D) (H':IU Box)=>H'=[]/\∃(l:IU D)(n:Int),rs=II l::xx n/\bP n f e)/\(decide ((↑(IR (IT Hq (HM f))):Int)>0)=false->PFnF Tryz.prog (GG M) 196 [II (IT ID e)] λ(l:IU D)=>∃(x0:Nat),bO x0 f e/\((YB e/\IA 0 0=IA 0 0/\(l=IT ID (sx e x0 f)/\IR l<=pz e x0)/\Tj f/\gD f=gD f/\(0:Int)=(x0:Int)/\IN)/\gC f/\IN)/\∀(x:Nat),bO x f e->(decide ((x:Int)<gD f)=true->((0:Int)<=(x:Int)/\(IT ID (HN f))[IJ (x:Int)]? = some (P5 f x))/\IK Tryz.prog (GG M) 193 [II (IT ID (sx e x f)),.str (Gc (IB (z1 (IT ID (HN f)) (IJ (x:Int)) 0) default))] λ(rs:IU D)=>∃(n:Int),rs=xx n/\(decide (n>=0)=true->[IP .i64 82]=dC f e)/\(decide (n>=0)=false->(pz e x=IR (IT ID (sx e x f))/\2=2/\FA (IT ID (sx e x f)) [P5 f x] (nat_lit 2) (nat_lit 24))/\∃(y:Nat),bO y f e/\IR (HN f) - y<IR (HN f) - x/\(YB e/\IA 0 0=IA 0 0/\IT ID (sx e x f)++WM f x=IT ID (sx e y f)/\Tj f/\gD f=gD f/\P6 x y)/\gC f/\IR (IT ID (sx e x f))+IR (WM f x)=pz e y/\IN))/\(decide ((x:Int)<gD f)=false->∃(x0:Nat),bM x0 f e/\((YB e/\IA 0 0=IA 0 0/\IT ID (sx e x f)=IT ID (sx e x f)/\bN f/\nO f=nO f/\(0:Int)=(↑x0: Int)/\IN)/\gC f/\pz e x=pz e x/\IN)/\∀(x_1:Nat),bM x_1 f e->(decide ((x_1:Int)<nO f)=true->((0:Int)<=(x_1:Int)/\(IT HV (Hz f))[IJ (x_1:Int)]? = some (P7 f x_1))/\IK Tryz.prog (GG M) 155 [II (IT ID (sx e x f)),P7 f x_1] λ(rs:IU D)=>∃(n:Int),rs=xx n/\((n != 0)=true->bP n f e)/\((n != 0)=false->∃(y:Nat),bM y f e/\IR (Hz f) - y<IR (Hz f) - x_1/\(YB e/\IA 0 0=IA 0 0/\IT ID (sx e x f)=IT ID (sx e x f)/\bN f/\nO f=nO f/\P6 x_1 y)/\gC f/\pz e x=pz e x/\IN))/\(decide ((x_1:Int)<nO f)=false->[IP .i64 0]=dC f e)))))
  · kernel_rfl
  delta xx qA u3 u5 rD nS nR p8 nQ bP dC WO WP P4 WN bO sx YB pz Tj gD gC bN P5 WM P6 bM nO P7;refine⟨λh9=>?_,λh9=>⟨λhts=>?_,λhts=>?_⟩⟩
  · have h9':f.kind=9:=by simpa using h9
    have ha:zC f.kind=true:=by rw[h9'];rfl
    obtain⟨_,_,a,b,hab⟩:=o4 hf ha;have htt:=gE hf ha;rw[Hv h9',hab]at hty;have e0:xh [a,b] 0=a:=rfl;have e1:xh [a,b] 1=b:=rfl;rw[e0,e1]at hty;unfold d7 at hty;refine(KB e f.ts htt (by omega) (by rw[hab];simp)).mono ?_;rintro rs H' ⟨rfl,rfl⟩;rw[hab];by_cases ha0:(zV e a).2=0
    · rw[IE (by simp[ha0])]at hty
      by_cases hb0:(zV e b).2=0
      · rw[IE (by simp[hb0])]at hty
        have hS:wp e [a,b] []=([(zV e a).1,(zV e b).1],0):=by simp[wp,ha0,hb0]
        rw[hS];refine⟨_,_,rfl,rfl,λh=>(by cases h),λ_=>⟨⟨by omega,rfl⟩,?_⟩⟩;refine(N6 [8,2,6] (zV e a).1 (by decide)).use ⟨_,rfl,⟨by omega,rfl⟩,⟨by omega,rfl⟩,λh=>?_,λh=>?_⟩
        · replace h:(bif (zV e a).1 != (zV e b).1 then true else !bif bif [8,2,6].contains (zV e a).1 then true else f.name==[61]then true else f.name==[33,61])=true:=h
          rw[hty,Hv];simp only[zH,F9,bne_iff_ne,ne_eq,Fe,E3,Ao,F5,DM,or_false,HH,not_or,beq_eq_false_iff_ne]at h;rcases h with h|⟨⟨⟨h1,h2,h3⟩,h4⟩,h5⟩
          · exact .inl h
          · exact .inr ⟨λh6=>h6.elim h4 h5,h1,h2,h3⟩
        · replace h:(bif (zV e a).1 != (zV e b).1 then true else !bif bif [8,2,6].contains (zV e a).1 then true else f.name==[61]then true else f.name==[33,61])=false:=h
          rw[hty,IE];simp only[zH,E3,bne_eq_false_iff_eq,C5,F9,Ao,F5,DM,or_false,HS,beq_iff_eq]at h;obtain⟨h1,h2⟩:=h;rintro (h3|⟨h4,h5,h6,h7⟩)
          · exact h3 h1
          · rcases h2 with (h2|h2)|h2
            · rcases h2 with h2|h2|h2
              · exact h5 h2
              · exact h6 h2
              · exact h7 h2
            · exact h4 (.inl h2)
            · exact h4 (.inr h2)
      · rw[Hv hb0]at hty
        have hS:wp e [a,b] []=([],(zV e b).2):=by simp[wp,ha0,hb0]
        rw[hS];exact⟨_,_,rfl,rfl,λ_=>by rw[hty],λh=>Hu (by simpa using h) hb0⟩
    · rw[Hv ha0]at hty
      have hS:wp e [a,b] []=([],(zV e a).2):=by simp[wp,ha0]
      rw[hS];exact⟨_,_,rfl,rfl,λ_=>by rw[hty],λh=>Hu (by simpa using h) ha0⟩
  · have h9' :¬ f.kind=9:=by simpa using h9
    have ha:zC f.kind=true:=by
      rcases EA (zC f.kind=true)with h|h
      · exact h
      · rw[Rw hf h]at hts;simp at hts
    obtain⟨_,_,a,b,hab⟩:=o4 hf ha;have htt:=gE hf ha;rw[IE h9',Hv ha,hab]at hty;have e0:xh [a,b] 0=a:=rfl;have e1:xh [a,b] 1=b:=rfl;rw[e0,e1]at hty;have fin:∀wa wb:Int,sZ f.kind=(wa,wb)->vA e f.ts [wa,wb]=f.ty e:=by intro wa wb hk;rw[hty,hab];by_cases h1:mb e a wa=0<;>by_cases h2:mb e b wb=0<;>simp[vA,gN,h1,h2,hk]
    have hk:f.kind=3∨f.kind=4∨f.kind=5∨f.kind=6∨f.kind=7∨f.kind=8:=by simp only[zC,HC,HS]at ha;omega
    have hlen:f.ts.length=2:=ir hf ha;rcases hk with hk|hk|hk|hk|hk|hk
    · have:=fin 1 2 (by rw[hk];rfl)
      rw[hk];refine⟨⟨⟨by decide,by decide⟩,rfl⟩,trivial,(Rq e f.ts 1 2 htt (by omega) hlen).mono ?_⟩;rintro rs H' ⟨⟨l,rfl⟩,rfl⟩;exact⟨rfl,_,_,rfl,by rw[this]⟩
    · have:=fin 1 3 (by rw[hk];rfl)
      rw[hk];refine⟨⟨⟨by decide,by decide⟩,rfl⟩,trivial,(Rq e f.ts 1 3 htt (by omega) hlen).mono ?_⟩;rintro rs H' ⟨⟨l,rfl⟩,rfl⟩;exact⟨rfl,_,_,rfl,by rw[this]⟩
    · have:=fin 4 1 (by rw[hk];rfl)
      rw[hk];refine⟨⟨⟨by decide,by decide⟩,rfl⟩,trivial,(Rq e f.ts 4 1 htt (by omega) hlen).mono ?_⟩;rintro rs H' ⟨⟨l,rfl⟩,rfl⟩;exact⟨rfl,_,_,rfl,by rw[this]⟩
    · have:=fin 5 1 (by rw[hk];rfl)
      rw[hk];refine⟨⟨⟨by decide,by decide⟩,rfl⟩,trivial,(Rq e f.ts 5 1 htt (by omega) hlen).mono ?_⟩;rintro rs H' ⟨⟨l,rfl⟩,rfl⟩;exact⟨rfl,_,_,rfl,by rw[this]⟩
    · have:=fin 4 2 (by rw[hk];rfl)
      rw[hk];refine⟨⟨⟨by decide,by decide⟩,rfl⟩,trivial,(Rq e f.ts 4 2 htt (by omega) hlen).mono ?_⟩;rintro rs H' ⟨⟨l,rfl⟩,rfl⟩;exact⟨rfl,_,_,rfl,by rw[this]⟩
    · have:=fin 3 2 (by rw[hk];rfl)
      rw[hk];refine⟨⟨⟨by decide,by decide⟩,rfl⟩,trivial,(Rq e f.ts 3 2 htt (by omega) hlen).mono ?_⟩;rintro rs H' ⟨⟨l,rfl⟩,rfl⟩;exact⟨rfl,_,_,rfl,by rw[this]⟩
  · have h9' :¬ f.kind=9:=by simpa using h9
    have ha:¬ zC f.kind=true:=by intro h;have:=ir hf h;simp[this]at hts
    rw[IE h9',IE ha]at hty;refine(Ix e).mono ?_;rintro l rfl;refine⟨0,⟨by omega,by simp⟩,⟨⟨rfl,rfl,⟨by simp,by simp⟩,rfl,rfl,rfl,trivial⟩,⟨rfl,rfl,rfl,rfl,rfl,rfl,trivial⟩,trivial⟩,λi hi=>⟨λhlt=>?_,λhge=>?_⟩⟩
    · simp only[H4,HS]at hlt
      obtain⟨z,hz,hm⟩:=zw (l:=f.bs) (x:=i) (by omega);have hd:=ye hz;have hi2:=hi.2;rw[hd,sE]at hi2;have hli:(e++f.bs.take i).length=e.length+i:=by simp;omega
      rw[HF,w6 hz,xE hz];have e2:Gc (IB (some (HW z.name)) default)=z.name:=rfl;rw[e2];refine⟨⟨by omega,by simp[hz]⟩,?_⟩;refine(KH (e++f.bs.take i) z.name (by rw[hli];omega)).use ⟨_,rfl,?_⟩;rw[QJ];refine⟨λh=>?_,λh=>?_⟩
      · rw[Hv h]at hi2
        rw[hty,hi2]
      · rw[IE (by simp[h])]at hi2
        have hcell:G6 [Hd (G6 [IP .i64 z.sort,HW z.name])]=[z.d]:=rfl;have hnx:e++f.bs.take (i+1)=e++f.bs.take i++[z]:=by rw[GN,hz];simp
        have hF:FA (IT ID (e++f.bs.take i)) [z.d] 2 24:=by
          refine⟨?_,?_⟩
          · have:=o7 (e++f.bs.take i++[z])
            unfold yH at this;simpa using this
          · rw[H4,hli];simp;omega
        refine⟨⟨by rw[H4,hli],rfl,hF⟩,i+1,⟨by omega,by rw[hnx];exact hi2⟩,by omega,⟨rfl,rfl,?_,rfl,rfl,?_,trivial⟩,⟨rfl,rfl,rfl,rfl,rfl,rfl,trivial⟩,?_,trivial⟩
        · rw[hnx,GI (l₂:=[z])]
          simp only[xE hz,wr hz];rfl
        · rw[zx (by omega) (by omega)];simp
        · rw[H4,hli]
          simp only[zxN,F2,FL];omega
    · simp only[H4,HH]at hge
      have hi2:=hi.2;rw[Fx (by omega),Gs (by omega:f.bs.length<=i),sE]at hi2;rw[Gs (by omega:f.bs.length<=i)];rw[hi2]at hty;simp only at hty;refine⟨0,⟨by omega,rfl⟩,⟨⟨rfl,rfl,rfl,rfl,rfl,rfl,trivial⟩,⟨rfl,rfl,rfl,rfl,rfl,rfl,trivial⟩,rfl,trivial⟩,λj hj=>⟨λhlt=>?_,λhge2=>?_⟩⟩
      · simp only[H4,HS]at hlt
        obtain⟨z,hz,hm⟩:=zw (l:=f.l) (x:=j) (by omega);have hj2:=hj.2;rw[ye hz,Eu]at hj2;have hzw:=CO hm;rw[HF,wZ hz];refine⟨⟨by omega,by simp[hz]⟩,?_⟩;have hzw2:=bT hm;refine(ih z hm (hall z hm) (e++f.bs) (by rw[FG];omega)).use ⟨_,rfl,λh=>?_,λh=>?_⟩
        · rw[Hv (by simpa using h)]at hj2
          rw[hty,hj2]
        · rw[IE (by simpa using h)]at hj2
          refine⟨j+1,⟨by omega,hj2⟩,by omega,⟨rfl,rfl,rfl,rfl,rfl,?_,trivial⟩,⟨rfl,rfl,rfl,rfl,rfl,rfl,trivial⟩,rfl,trivial⟩;rw[zx (by omega) (by omega)];simp
      · simp only[H4,HH]at hge2
        have hj2:=hj.2;rw[Fx (by omega),Eu]at hj2;rw[hty,←hj2]
end
section
variable {G:Nat->IQ (IU D)}{M:Gf}
theorem I3 (e:En) (t:Tm) (s:Int) (hl:e.length<4611686018427387904):IK Tryz.prog G 207 [.sl (e.map ID),t.d,.int .i64 s] (· = [.int .i64 (mb e t s)]):=by
  refine zq Tryz.func207 ⟨_,rfl⟩ ?_;apply @z7 _ (IK Tryz.prog G 243 [II (IT ID e),.agg [.int .i64 (Gh t),.str (GK t),.int .i64 (FO t)]] λ(rs:IU D)=>∃(n:Int)(n_1:Int),rs=[IP .i64 n,.int .i64 n_1]/\((bif n_1==0 then n != s else false)=true->[IP .i64 80]=[IP .i64 (mb e t s)])/\((bif n_1==0 then n != s else false)=false->[IP .i64 n_1]=[IP .i64 (mb e t s)]))
  · kernel_rfl
  refine(KD e t hl).use ⟨_,_,rfl,?_⟩;unfold mb;refine⟨λh=>?_,λh=>?_⟩
  · have h':(zV e t).2=0/\(zV e t).1≠s:=by rw[zn,HC]at h;exact⟨by simpa using h.1,by simpa using h.2⟩
    rw[Hv h']
  · rw[IE]
    rintro⟨h1,h2⟩;rw[zn,FH]at h;rcases h with h|h
    · exact Hu h1 (by simpa using h)
    · exact h2 (by simpa using h)
abbrev g61q3:IU Sh:=[HX .i64,HI,HX .i64]
abbrev dB (a:Fm):D:=zr g61q3 (IT Hq (HM a)) (IJ 0)
abbrev YA (a:IU D) (b:Int) (c:Int):Prop:=a=[IP .i64 b,.int .i64 c]
abbrev X0 (a:En) (b:Fm) (c:Tm) (d:Tm):IU D:=[IP .i64 (d7 a (HE b) c d)]
abbrev Ti (a:Int) (b:En) (c:Fm) (d:Tm) (e:Tm):Prop:=[IP .i64 a]=X0 b c d e
abbrev Th (a:Int) (b:Int) (c:Fm):Bool:=bif a != b then true else bif bif bif !bif HE c==Gx (Gy (Gu #[(61:UInt8)]))then true else HE c==Gx (Gy (Gu #[(33:UInt8),(61:UInt8)]))then a != 8 else false then a != 2 else false then a != 6 else false
theorem Is (e:En) (f:Fm) (a b:Tm) (hab:f.ts=[a,b]) (hl:e.length<4611686018427387904):IK Tryz.prog G 204 [.sl (e.map ID),f.d] (· = [.int .i64 (d7 e f.name a b)]):=by
  rw[yf f];refine zq Tryz.func204 ⟨_,rfl⟩ ?_;apply @z7 _ (((0:Int)<=0/\(IT Hq (HM f))[IJ 0]? = some (dB f))/\IK Tryz.prog G 243 [II (IT ID e),dB f] λ(rs:IU D)=>∃(n:Int)(n_1:Int),YA rs n n_1/\((n_1 != 0)=true->Ti n_1 e f a b)/\((n_1 != 0)=false->((0:Int)<=1/\(IT Hq (HM f))[IJ 1]? = some (zr g61q3 (IT Hq (HM f)) (IJ 1)))/\IK Tryz.prog G 243 [II (IT ID e),zr g61q3 (IT Hq (HM f)) (IJ 1)] λ(rs:IU D)=>∃(n_2:Int)(n_3:Int),YA rs n_2 n_3/\((n_3 != 0)=true->Ti n_3 e f a b)/\((n_3 != 0)=false->(Th n n_2 f=true->[IP .i64 80]=X0 e f a b)/\(Th n n_2 f=false->[IP .i64 0]=X0 e f a b))))
  · kernel_rfl
  delta dB g61q3 YA Ti X0 Th;have e0:IJ 0=0:=rfl;have e1:IJ 1=1:=rfl;have h0:f.ts[0]? = some a:=by rw[hab];rfl
  have h1:f.ts[1]? = some b:=by rw[hab];rfl
  rw[e0,e1,uS h0,uS h1];unfold d7;refine⟨⟨by omega,by simp[h0]⟩,?_⟩;refine(KD e a hl).use ⟨_,_,rfl,λh=>by rw[Hv (by simpa using h)],λha=>⟨⟨by omega,by simp[h1]⟩,?_⟩⟩;rw[IE (by simpa using ha)];refine(KD e b hl).use ⟨_,_,rfl,λh=>by rw[Hv (by simpa using h)],λhb=>?_⟩;rw[IE (by simpa using hb)];have q:(bif (zV e a).1 != (zV e b).1 then true else bif bif bif !bif f.name==[61]then true else f.name==[33,61]then(zV e a).1 != 8 else false then(zV e a).1 != 2 else false then(zV e a).1 != 6 else false)=decide ((zV e a).1≠(zV e b).1∨ ¬ (f.name=[61]∨f.name=[33,61])/\(zV e a).1≠8/\(zV e a).1≠2/\(zV e a).1≠6):=by rw[Ge];simp[zH,zn,and_assoc]
  refine⟨λh=>?_,λh=>?_⟩
  · have h':=q.symm.trans h
    rw[Hv (G0 h')]
  · have h':=q.symm.trans h
    rw[IE (of_decide_eq_false h')]
abbrev X1 (a:Int):IU D:=[IP .i64 a]
abbrev Tg (a:IU D) (b:Int):Prop:=a=X1 b
abbrev Tf (a:Fm) (b:En):IU D:=[IP .i64 (Fm.ty a b)]
abbrev bL (a:Int) (b:Fm) (c:En):Prop:=X1 a=Tf b c
abbrev WL (a:IU D) (b:Fm) (c:En):Prop:= ∃(n:Int),Tg a n/\bL n b c
abbrev sw (a:En) (b:Nat) (c:Fm):En:=a++HZ b (HN c)
abbrev bK (a:Nat) (b:Fm) (c:En):Prop:=a<=IR (HN b)/\sE c (HN b)=sE (sw c a b) (GM a (HN b))
abbrev gB (a:Fm):Prop:=Hj a=Hj a/\HE a=HE a/\HB a=HB a/\IT Hq (HM a)=IT Hq (HM a)/\IT ID (HN a)=IT ID (HN a)/\IT HV (Hz a)=IT HV (Hz a)/\IN
abbrev pv (a:En) (b:Nat):Nat:=IR a+b
abbrev P8 (a:Nat) (b:Fm):Bool:=decide ((a:Int)<(↑(IR (IT ID (HN b))):Int))
abbrev P9 (a:Fm) (b:Nat):D:=zr [HI,HX .i64] (IT ID (HN a)) (IJ (b:Int))
abbrev WK (a:Nat) (b:Fm):Prop:=(0:Int)<=(a:Int)/\(IT ID (HN b))[IJ (a:Int)]? = some (P9 b a)
abbrev WJ (a:Fm) (b:Nat):IU D:=G6 [Hd (G6 [(λ(x:Sh×Nat)=>match x with|(sh,j)=>GP sh (IB (z1 (IT ID (HN a)) (IJ (b:Int)) j) default)) (HX .i64,0+1),(λ(x:Sh×Nat)=>match x with|(sh,j)=>GP sh (IB (z1 (IT ID (HN a)) (IJ (b:Int)) j) default)) (HI,0)])]
abbrev Pz (a:Nat) (b:Nat):Prop:=Hr .i64 ((a:Int)+1)=(b:Int)/\IN
abbrev bJ (a:Nat) (b:Fm) (c:En):Prop:=a<=IR (Hz b)/\Eu (GM a (Hz b)) (c++HN b)=Eu (Hz b) (c++HN b)
abbrev Py (a:Nat) (b:Fm):Bool:=decide ((a:Int)<(↑(IR (IT HV (Hz b))):Int))
abbrev Px (a:Fm) (b:Nat):D:=zr [HX .i64,HI,HX .i64,HK,HK,HK] (IT HV (Hz a)) (IJ (b:Int))
theorem Ir (f:Fm) (hf:f.formB=true) (e:En) (hw:e.length+f.wt<1099511627776):IK Tryz.prog G 176 [.sl (e.map ID),f.d] (· = [.int .i64 (f.ty e)]):=by
  induction f using Ex generalizing e with
  |h f ih =>
  rw[yf f];refine zu (LL [(11,ze (α:=Nat) Tryz.prog G L0 0 (z8 (z6 Tryz.f176) 0) [3] (λi=>i<=f.bs.length/\sE e f.bs=sE (e++f.bs.take i) (f.bs.drop i)) (λi=>f.bs.length - i) (λi=>[(9,.d (.int .i64 i)),(8,.vec 1 ((e++f.bs.take i).map ID))]) (λH i=>[H.getD 0 .dead,.vec (e.length+i) 2])),(17,ze (α:=Nat) Tryz.prog G L0 0 (z8 (z6 Tryz.f176) 1) [3,8] (λi=>i<=f.l.length/\Eu (f.l.drop i) (e++f.bs)=Eu f.l (e++f.bs)) (λi=>f.l.length - i) (λi=>[(10,.d (.int .i64 i))]) (λH i=>[H.getD 0 .dead,H.getD 1 .dead]))]) Tryz.func176 ⟨_,rfl⟩ (pA zz zz) ?_;have hty:=f.ty_eq e;have hwt:=f.wt_eq;have hwl:=rG f.l;have hall:∀x∈f.l,x.formB=true:=by rw[f.formB_eq,wq,HC]at hf;exact G3.1 hf.2
  apply @z7 _ (((Hj f==9)=true->IK Tryz.prog G 204 [II (IT ID e),.agg [.int .i64 (Hj f),.str (HE f),.int .i64 (HB f),.sl (IT Hq (HM f)),.sl (IT ID (HN f)),.sl (IT HV (Hz f))]] λ(rs:IU D)=>WL rs f e)/\((Hj f==9)=false->IK Tryz.prog G 205 [IP .i64 (Hj f)] λ(rs:IU D)=>∃(b:Bool),rs=[IL b]/\(b=true->IK Tryz.prog G 206 [IP .i64 (Hj f)] λ(rs:IU D)=>∃(n:Int)(n_1:Int),YA rs n n_1/\((0:Int)<=0/\(IT Hq (HM f))[IJ 0]? = some (dB f))/\IK Tryz.prog G 207 (II (IT ID e)::dB f::X1 n) λ(rs:IU D)=>∃(n:Int),Tg rs n/\((n != 0)=true->bL n f e)/\((n != 0)=false->((0:Int)<=1/\(IT Hq (HM f))[IJ 1]? = some (zr g61q3 (IT Hq (HM f)) (IJ 1)))/\IK Tryz.prog G 207 (II (IT ID e)::zr g61q3 (IT Hq (HM f)) (IJ 1)::X1 n_1) λ(rs:IU D)=>WL rs f e))/\(b=false->FA [] (IT ID e) (nat_lit 2) (nat_lit 24)/\∃(x0:Nat),bK x0 f e/\((IA 0 0=IA 0 0/\G6 ([]:IU D)++IT ID e=IT ID (sw e x0 f)/\(0:Int)=(x0:Int)/\IN)/\gB f/\IR (G6 ([]:IU D))+IR (IT ID e)=pv e x0/\IN)/\∀(x:Nat),bK x f e->(P8 x f=true->WK x f/\IK Tryz.prog G 175 [II (IT ID (sw e x f)),.str (Gc (IB (z1 (IT ID (HN f)) (IJ (x:Int)) 0) default))] λ(rs:IU D)=>∃(b:Bool),rs=[IL b]/\(b=true->[IP .i64 82]=Tf f e)/\(b=false->WK x f/\(pv e x=IR (IT ID (sw e x f))/\2=2/\FA (IT ID (sw e x f)) [P9 f x] (nat_lit 2) (nat_lit 24))/\∃(y:Nat),bK y f e/\IR (HN f) - y<IR (HN f) - x/\(IA 0 0=IA 0 0/\IT ID (sw e x f)++WJ f x=IT ID (sw e y f)/\Pz x y)/\gB f/\IR (IT ID (sw e x f))+IR (WJ f x)=pv e y/\IN))/\(P8 x f=false->∃(x0:Nat),bJ x0 f e/\((IA 0 0=IA 0 0/\IT ID (sw e x f)=IT ID (sw e x f)/\(0:Int)=(x0:Int)/\IN)/\gB f/\pv e x=pv e x/\IN)/\∀(x_1:Nat),bJ x_1 f e->(Py x_1 f=true->((0:Int)<=(x_1:Int)/\(IT HV (Hz f))[IJ (x_1:Int)]? = some (Px f x_1))/\IK Tryz.prog G 176 [II (IT ID (sw e x f)),Px f x_1] λ(rs:IU D)=>∃(n:Int),Tg rs n/\((n != 0)=true->bL n f e)/\((n != 0)=false->∃(y:Nat),bJ y f e/\IR (Hz f) - y<IR (Hz f) - x_1/\(IA 0 0=IA 0 0/\IT ID (sw e x f)=IT ID (sw e x f)/\Pz x_1 y)/\gB f/\pv e x=pv e x/\IN))/\(Py x_1 f=false->[IP .i64 0]=Tf f e)))))
  · kernel_rfl
  delta WL Tg X1 bL Tf YA dB g61q3 Ti X0 Th bK sw gB pv P8 WK P9 WJ Pz bJ Py Px;refine⟨λh9=>?_,λh9=>?_⟩
  · have h9':f.kind=9:=by simpa using h9
    obtain⟨_,_,a,b,hab⟩:=o4 hf (by rw[h9'];rfl);rw[Hv h9',hab]at hty;have:=Is (G:=G) e f a b hab (by omega);rw[yf f]at this;refine this.use ⟨_,rfl,?_⟩;rw[hty];rfl
  · have h9' :¬ f.kind=9:=by simpa using h9
    rw[IE h9']at hty;refine(Ni f.kind).use ⟨_,rfl,λha=>?_,λha=>?_⟩
    · obtain⟨_,_,a,b,hab⟩:=o4 hf ha
      have h0:f.ts[0]? = some a:=by rw[hab];rfl
      have h1:f.ts[1]? = some b:=by rw[hab];rfl
      rw[Hv ha,hab]at hty;have e0:IJ 0=0:=rfl;have e1:IJ 1=1:=rfl;rw[e0,e1,uS h0,uS h1];have hty2:f.ty e=if mb e a (sZ f.kind).1≠0 then mb e a (sZ f.kind).1 else mb e b (sZ f.kind).2:=hty;refine(Iu f.kind).use ⟨_,_,rfl,⟨by omega,by simp[h0]⟩,?_⟩;refine(I3 e a _ (by omega)).use ⟨_,rfl,λh=>?_,λh=>⟨⟨by omega,by simp[h1]⟩,?_⟩⟩
      · rw[hty2,Hv (by simpa using h)]
      · refine(I3 e b _ (by omega)).use ⟨_,rfl,?_⟩
        rw[hty2,IE (by simpa using h)]
    · rw[IE (by simp[ha])]at hty
      have hFe:FA [] (IT ID e) 2 24:=by
        refine⟨?_,?_⟩
        · have:=o7 e
          unfold yH at this;simpa using this
        · simp;omega
      refine⟨hFe,0,⟨by omega,by simp⟩,⟨⟨rfl,by simp,rfl,trivial⟩,⟨rfl,rfl,rfl,rfl,rfl,rfl,trivial⟩,by simp,trivial⟩,λi hi=>⟨λhlt=>?_,λhge=>?_⟩⟩
      · simp only[H4,HS]at hlt
        obtain⟨z,hz,hm⟩:=zw (l:=f.bs) (x:=i) (by omega);have hd:=ye hz;have hi2:=hi.2;rw[hd,sE]at hi2;have hli:(e++f.bs.take i).length=e.length+i:=by simp;omega
        rw[HF,w6 hz,xE hz];have e2:Gc (IB (some (HW z.name)) default)=z.name:=rfl;rw[e2];refine⟨⟨by omega,by simp[hz]⟩,?_⟩;refine(KE (e++f.bs.take i) z.name (by rw[hli];omega)).use ⟨_,rfl,?_⟩;refine⟨λh=>?_,λh=>?_⟩
        · rw[Hv h]at hi2
          rw[hty,hi2]
        · rw[IE (by simp[h])]at hi2
          have hnx:e++f.bs.take (i+1)=e++f.bs.take i++[z]:=by rw[GN,hz];simp
          have hF:FA (IT ID (e++f.bs.take i)) [z.d] 2 24:=by
            refine⟨?_,?_⟩
            · have:=o7 (e++f.bs.take i++[z])
              unfold yH at this;simpa using this
            · rw[H4,hli];simp;omega
          refine⟨⟨by omega,by simp[hz]⟩,⟨by rw[H4,hli],rfl,hF⟩,i+1,⟨by omega,by rw[hnx];exact hi2⟩,by omega,⟨rfl,?_,?_,trivial⟩,⟨rfl,rfl,rfl,rfl,rfl,rfl,trivial⟩,?_,trivial⟩
          · rw[hnx,GI (l₂:=[z])]
            simp only[xE hz,wr hz];rfl
          · rw[zx (by omega) (by omega)];simp
          · rw[H4,hli]
            simp only[zxN,F2,FL];omega
      · simp only[H4,HH]at hge
        have hi2:=hi.2;rw[Fx (by omega),Gs (by omega:f.bs.length<=i),sE]at hi2;rw[Gs (by omega:f.bs.length<=i)];rw[hi2]at hty;simp only at hty;refine⟨0,⟨by omega,rfl⟩,⟨⟨rfl,rfl,rfl,trivial⟩,⟨rfl,rfl,rfl,rfl,rfl,rfl,trivial⟩,rfl,trivial⟩,λj hj=>⟨λhlt=>?_,λhge2=>?_⟩⟩
        · simp only[H4,HS]at hlt
          obtain⟨z,hz,hm⟩:=zw (l:=f.l) (x:=j) (by omega);have hj2:=hj.2;rw[ye hz,Eu]at hj2;have hzw:=CO hm;rw[HF,wZ hz];refine⟨⟨by omega,by simp[hz]⟩,?_⟩;have hzw2:=bT hm;refine(ih z hm (hall z hm) (e++f.bs) (by rw[FG];omega)).use ⟨_,rfl,λh=>?_,λh=>?_⟩
          · rw[Hv (by simpa using h)]at hj2
            rw[hty,hj2]
          · rw[IE (by simpa using h)]at hj2
            refine⟨j+1,⟨by omega,hj2⟩,by omega,⟨rfl,rfl,?_,trivial⟩,⟨rfl,rfl,rfl,rfl,rfl,rfl,trivial⟩,rfl,trivial⟩;rw[zx (by omega) (by omega)];simp
        · simp only[H4,HH]at hge2
          have hj2:=hj.2;rw[Fx (by omega),Eu]at hj2;rw[hty,←hj2]
end
def bI (t:Tm):Fm:= .mk 9 [61] 0 [t,t] [] []
def gA (e:En) (t:Tm):Int×Int:=if uf e=true/\yL t=true then zV e t else(0,1)
theorem Rp (t:Tm):(bI t).formB=yL t:=by simp[bI,YF,x7,yi,wY,vl,zC,yb,qG,xh,Hj,HM,HN,Hz,HB,HE]
theorem WI (t:Tm):(bI t).checkI=if yL t then 0 else 1:=by
 unfold ES;rw[Rp];cases yL t with
 |false=>rfl
 |true=>simp[bI,Dj,GB,Fm.depth,Ei]
theorem NX (t:Tm):(bI t).wt=4+2*t.name.length+2*0:=by simp[bI,Fm.wt,Fm.wts,YR,bU];omega
theorem Mr (t:Tm):(bI t).d = .agg [.int .i64 9,.str [61],.int .i64 0,.sl [.agg [.int .i64 t.kind,.str t.name,.int .i64 t.n],.agg [.int .i64 t.kind,.str t.name,.int .i64 t.n]],.sl [],.sl []]:=by unfold bI;rw[A5];simp[Hq]
section
variable {G:Nat->IQ (IU D)}{M:Gf}
abbrev Te (a:Tm):D:=Hd [.int .i64 (Gh a),.str (GK a),.int .i64 (FO a)]
abbrev Pw (a:En) (b:Tm):IU D:=[IP .i64 (Hw (gA a b)),.int .i64 (HL (gA a b))]
theorem g13 (hM:M.Ok) (e:En) (t:Tm) (hl:nq e<=1099511627776) (ht:t.name.length<=1099511627776):IK Tryz.prog (GG M) 159 [.sl (e.map ID),t.d] (· = [.int .i64 (gA e t).1,.int .i64 (gA e t).2]):=by
 have h25:=Na hM (bI t) (by rw[NX];omega);rw[Mr]at h25;have h31:=KC (M:=M) e t;unfold Hq at h31 ⊢;refine zq Tryz.func159 ⟨_,rfl⟩ ?_;apply @z7 _ (IK Tryz.prog (GG M) 154 [II (IT ID e)] λ(rs:IU D)=>∃(b:Bool),rs=[IL b]/\IK Tryz.prog (GG M) 153 [Hd [.int .i64 9,.str (Gx (Gy (Gu #[(61:UInt8)]))),.int .i64 0,.sl [Te t,Te t],.sl [],.sl []]] λ(rs:IU D)=>∃(n:Int),rs=[IP .i64 n]/\((bif !b then true else n != 0)=true->[IP .i64 0,.int .i64 1]=Pw e t)/\((bif !b then true else n != 0)=false->IK Tryz.prog (GG M) 195 [II (IT ID e),Te t] λ(rs:IU D)=>∃(n:Int)(n_1:Int),rs=[IP .i64 n,.int .i64 n_1]/\[IP .i64 n,.int .i64 n_1]=Pw e t))
 ·kernel_rfl
 delta Te Pw;unfold gA;rw[WI]at h25;unfold nq at hl;refine(KF hM e (by unfold nq;omega)).use ⟨_,rfl,?_⟩;refine h25.use ⟨_,rfl,?_⟩;cases he:uf e with
 |false=>exact⟨λ_=>rfl,λh=>(by cases h)⟩
 |true =>
  cases hb:yL t with
  |false=>exact⟨λ_=>rfl,λh=>(by cases h)⟩
  |true =>
   refine⟨λh=>(by cases h),λ_=>?_⟩;exact(h31 hb (by omega)).use ⟨_,_,rfl,rfl⟩
abbrev Td (a:Fm) (b:En):IU D:=[IP .i64 (Fm.tyI a b)]
abbrev Pv (a:Fm):IU D:=[Hd [.int .i64 (Hj a),.str (HE a),.int .i64 (HB a),.sl (IT Hq (HM a)),.sl (IT ID (HN a)),.sl (IT HV (Hz a))]]
theorem g16 (hM:M.Ok) (e:En) (f:Fm) (hl:nq e+f.wt<1099511627776):IK Tryz.prog (GG M) 119 [.sl (e.map ID),f.d] (· = [.int .i64 (f.tyI e)]):=by
 have h25:=Na hM f (by omega);have h36:=λh=>I2 (M:=M) f h e (by unfold nq at hl;omega);rw[yf f]at *;refine zq Tryz.func119 ⟨_,rfl⟩ ?_;apply @z7 _ (IK Tryz.prog (GG M) 154 [II (IT ID e)] λ(rs:IU D)=>∃(b:Bool),rs=[IL b]/\((!b)=true->[IP .i64 1]=Td f e)/\((!b)=false->IK Tryz.prog (GG M) 153 (Pv f) λ(rs:IU D)=>∃(n:Int),rs=[IP .i64 n]/\((n != 0)=true->[IP .i64 n]=Td f e)/\((n != 0)=false->IK Tryz.prog (GG M) 155 (II (IT ID e)::Pv f) λ(rs:IU D)=>∃(n:Int),rs=[IP .i64 n]/\[IP .i64 n]=Td f e)))
 ·kernel_rfl
 delta Td Pv;unfold Fm.tyI;refine(KF hM e (by omega)).use ⟨_,rfl,λh=>by rw[Hv (by simpa using h)],λh=>?_⟩;rw[IE (by simpa using h)];refine h25.use ⟨_,rfl,λh=>by rw[Hv (by simpa using h)],λh=>?_⟩;have hc:f.checkI=0:=by simpa using h
 rw[IE (by simpa using h)];exact(h36 (s8 hc)).use ⟨_,rfl,rfl⟩
theorem Iq (hM:M.Ok) (b:Bd) (hb:b.name.length<=1099511627776):IK Tryz.prog (GG M) 150 [b.d] (· = [.bool (!bindB b)]):=by
 have h:=KG hM b hb;unfold ID at h ⊢;refine zq Tryz.func150 ⟨_,rfl⟩ ?_;apply @z7 _ (IK Tryz.prog (GG M) 151 [Hd [.str (DC b),.int .i64 (Cr b)]] λ(rs:IU D)=>∃(b_1:Bool),rs=[IL b_1]/\[IL !b_1]=[IL !bindB b])
 ·kernel_rfl
 exact h.use ⟨_,rfl,rfl⟩
abbrev Tc (a:Nat) (b:En):Prop:=a<=IR b/\F0 (HZ a b) bindB=true
abbrev Pu (a:En) (b:Nat):D:=zr [HI,HX .i64] (IT ID a) (IJ (b:Int))
theorem Ip (hM:M.Ok) (e:En) (hl:nq e<=1099511627776):IK Tryz.prog (GG M) 188 [.sl (e.map ID),.fn 150] (λrs=>∃r:Int,rs=[.int .i64 r]/\decide (r>=0) = !e.all bindB):=by
 refine zu (LL [(2,ze (α:=Nat) Tryz.prog (GG M) L0 0 (z8 (z6 Tryz.f188) 0) [0,1,7] (λi=>i<=e.length/\(e.take i).all bindB=true) (λi=>e.length - i) (λi=>[(8,.d (.int .i64 i))]) (λH _=>H))]) Tryz.func188 ⟨_,⟨if e.all bindB then -1 else 0,rfl,by cases e.all bindB<;>rfl⟩⟩ (zt zz) ?_;apply @z7 _ (∃(x0:Nat),Tc x0 e/\((IT ID e=IT ID e/\IH (.fn 150)=IH (.fn 150)/\(↑(IR (IT ID e)):Int)=(↑(IR (IT ID e)):Int)/\(0:Int)=(x0:Int)/\IN)/\IN)/\∀(x:Nat),Tc x e->(decide ((x:Int)<(↑(IR (IT ID e)):Int))=true->((0:Int)<=(x:Int)/\(IT ID e)[IJ (x:Int)]? = some (Pu e x))/\IK Tryz.prog (GG M) 150 [Pu e x] λ(rs:IU D)=>∃(b:Bool),rs=[IL b]/\(b=true->∃(r:Int),[IP .i64 (x:Int)]=[IP .i64 r]/\decide (r>=0) = !F0 e bindB)/\(b=false->∃(y:Nat),Tc y e/\IR e - y<IR e - x/\(IT ID e=IT ID e/\IH (.fn 150)=IH (.fn 150)/\(↑(IR (IT ID e)):Int)=(↑(IR (IT ID e)):Int)/\Hr .i64 ((x:Int)+1)=(y:Int)/\IN)/\IN))/\(decide ((x:Int)<(↑(IR (IT ID e)):Int))=false->∃(r:Int),[IP .i64 (-1)]=[IP .i64 r]/\decide (r>=0) = !F0 e bindB))
 ·kernel_rfl
 delta Tc Pu;unfold nq at hl;refine⟨0,⟨by omega,rfl⟩,?_,λi hi=>⟨λhlt=>?_,λhge=>?_⟩⟩
 ·simp
 ·simp only[H4,HS]at hlt;obtain⟨z,hz,hm⟩:=zw (l:=e) (x:=i) (by omega);have hzl:=mH hm;rw[HF,w6 hz];refine⟨⟨by omega,by simp[hz]⟩,?_⟩;refine(Iq hM z (by omega)).use ⟨_,rfl,λhb=>⟨_,rfl,?_⟩,λhb=>⟨i+1,⟨by omega,?_⟩,by omega,?_⟩⟩
  ·have:e.all bindB=false:=by rw[D3];exact⟨z,hm,by simpa using hb⟩
   rw[this];simp
  ·rw[GN,hz,Fb,hi.2];simpa using hb
  ·rw[zx (by omega) (by omega)];simp
 ·simp only[H4,HH]at hge;have h2:=hi.2;rw[Gs (by omega)]at h2;exact⟨_,rfl,by rw[h2];rfl⟩
theorem I4 (hM:M.Ok) (e:En) (hl:nq e<=1099511627776):IK Tryz.prog (GG M) 152 [.sl (e.map ID),.fn 150] (· = [.bool (!e.all bindB)]):=by
 refine zq Tryz.func152 ⟨_,rfl⟩ ?_;apply @z7 _ (IK Tryz.prog (GG M) 188 [II (IT ID e),.fn 150] λ(rs:IU D)=>∃(n:Int),rs=[IP .i64 n]/\[IL (decide (n>=0))]=[IL !F0 e bindB])
 ·kernel_rfl
 refine(Ip hM e hl).mono ?_;rintro rs ⟨r,rfl,hr⟩;exact⟨r,rfl,by rw[hr]⟩
end
def Ru.wt (r:Ru):Nat:=r.name.length+nq r.each+r.body.wt
def Ru.headB (r:Ru):Bool:=yw r.name&&rE r&&decide (r.each.length<=6)&&r.each.all bindB
theorem Ru.tyI_bad {r:Ru}(h:r.headB=false):r.tyI=1:=by unfold Bm;unfold Ru.headB at h;rw[Hv h]
theorem Ru.tyI_check {r:Ru}(h:r.headB=true) (hc:r.body.checkI≠0):r.tyI=r.body.checkI:=by unfold Bm;unfold Ru.headB at h;rw[IE (by simp[h]),Hv hc]
theorem Ru.tyI_env {r:Ru}(h:r.headB=true) (hc:r.body.checkI=0):r.tyI=if uf r.each then r.body.ty r.each else 82:=by
  unfold Bm;unfold Ru.headB at h;rw[IE (by simp[h]),IE (by simp[hc])];simp only[HC]at h;unfold uf;rw[h.2,EB];by_cases hn:(r.each.map (·.name)).Nodup
  · simp[hn]
  · simp[hn]
theorem Ro (nm:Nm):bindB ⟨nm,1⟩=yw nm:=by simp[bindB]
theorem WH {e:En}{i:Nat}{z:Bd}(h:e[i]? = some z):((e.take (i+1)).map (·.name)).Nodup↔((e.take i).map (·.name)).Nodup/\yt (e.take i) z.name=false:=by
  rw[GN,h,GI,BW,gL];simp only[Cf,Gb,FQ,CB];constructor
  · rintro⟨h1,_,h3⟩
    exact⟨h1,λhm=>h3 _ hm _ rfl rfl⟩
  · rintro⟨h1,h2⟩
    refine⟨h1,by simp,?_⟩;rintro a ha b rfl rfl;exact h2 ha
section
variable {G:Nat->IQ (IU D)}{M:Gf}
abbrev Tb (a:Ru):IU D:=[Hd [.str (FX a),.int .i64 1]]
abbrev np (a:IU D) (b:Bool):Prop:=a=[IL b]
abbrev X2 (a:Ru):Bool:=decide ((↑(IR (IT ID (GT a))):Int)>6)
abbrev Ta (a:Bool) (b:Ru) (c:Bool):Bool:=bif bif bif bif !a then true else decide (FZ b<0)then true else decide (FZ b>0)then true else X2 b then true else c
abbrev qb (a:Ru):IU D:=[IP .i64 (Bm a)]
abbrev dA (a:Ru):IU D:=[Hd [.int .i64 (Hj (G7 a)),.str (HE (G7 a)),.int .i64 (HB (G7 a)),.sl (IT Hq (HM (G7 a))),.sl (IT ID (HN (G7 a))),.sl (IT HV (Hz (G7 a)))]]
abbrev TZ (a:Gf) (b:Ru):Prop:=IK Tryz.prog (GG a) 153 (dA b) λ(rs:IU D)=>∃(n:Int),rs=[IP .i64 n]/\((n != 0)=true->[IP .i64 n]=qb b)/\((n != 0)=false->IK Tryz.prog (GG a) 154 [II (IT ID (GT b))] λ(rs:IU D)=>∃(b_1:Bool),np rs b_1/\((!b_1)=true->[IP .i64 82]=qb b)/\((!b_1)=false->IK Tryz.prog (GG a) 155 (II (IT ID (GT b))::dA b) λ(rs:IU D)=>∃(n:Int),rs=[IP .i64 n]/\[IP .i64 n]=qb b))
abbrev TY (a:Bool) (b:Ru) (c:Bool):Bool:=bif bif bif bif !a then true else decide (FZ b<1)then true else decide (FZ b>1000)then true else X2 b then true else c
theorem g20 (hM:M.Ok) (r:Ru) (hl:r.wt<1099511627776):IK Tryz.prog (GG M) 115 [r.d] (· = [.int .i64 r.tyI]):=by
  unfold Ru.wt at hl;have h25:=Na hM r.body (by omega);have h36:=λh=>I2 (M:=M) r.body h r.each (by unfold nq at hl;omega);have h39:=KG hM ⟨r.name,1⟩ (by simp only;omega);unfold ID at h39;rw[yf r.body]at h25 h36;unfold Hm;refine zq Tryz.func115 ⟨_,rfl⟩ ?_;apply @z7 _ ((FW r=true->IK Tryz.prog (GG M) 151 (Tb r) λ(rs:IU D)=>∃(b:Bool),np rs b/\IK Tryz.prog (GG M) 152 [II (IT ID (GT r)),.fn 150] λ(rs:IU D)=>∃(b_1:Bool),np rs b_1/\(Ta b r b_1=true->[IP .i64 1]=qb r)/\(Ta b r b_1=false->TZ M r))/\(FW r=false->IK Tryz.prog (GG M) 151 (Tb r) λ(rs:IU D)=>∃(b:Bool),np rs b/\IK Tryz.prog (GG M) 152 [II (IT ID (GT r)),.fn 150] λ(rs:IU D)=>∃(b_1:Bool),np rs b_1/\(TY b r b_1=true->[IP .i64 1]=qb r)/\(TY b r b_1=false->TZ M r)))
  · kernel_rfl
  delta Tb np Ta X2 qb TZ dA TY;have hb1:bindB { name:=r.name,sort:=1 }=yw r.name:=Ro r.name;have goOn:r.headB=true->IK Tryz.prog (GG M) 153 [Hd (s7 r.body)] λrs=>∃(n:Int),rs=[IP Ho n]/\((n != 0)=true->[IP Ho n]=[IP Ho r.tyI])/\((n != 0)=false->IK Tryz.prog (GG M) 154 [II (IT ID r.each)] λrs=>∃b,rs=[IL b]/\((!b)=true->[IP Ho 82]=[IP Ho r.tyI])/\((!b)=false->IK Tryz.prog (GG M) 155 [II (IT ID r.each),Hd (s7 r.body)] λrs=>∃(n:Int),rs=[IP Ho n]/\[IP Ho n]=[IP Ho r.tyI])):=by
    intro hh;refine h25.use ⟨_,rfl,λh=>?_,λh=>?_⟩
    · rw[Ru.tyI_check hh (by simpa using h)]
    · have hc:r.body.checkI=0:=by simpa using h
      rw[Ru.tyI_env hh hc];refine(KF hM r.each (by omega)).use ⟨_,rfl,λh=>?_,λh=>?_⟩
      · rw[IE (by simpa using h)]
      · rw[Hv (by simpa using h)]
        exact(h36 (s8 hc)).use ⟨_,rfl,rfl⟩
  refine⟨λhd=>?_,λhd=>?_⟩
  · refine h39.use ⟨_,rfl,(I4 hM r.each (by omega)).use ⟨_,rfl,?_⟩⟩
    have q:(bif bif bif bif !bindB { name:=r.name,sort:=1 }then true else decide (r.weight<0)then true else decide (r.weight>0)then true else decide ((↑(IT ID r.each).length:Int)>6)then true else !r.each.all bindB) = !r.headB:=by rw[hb1];unfold Ru.headB rE;rw[hd];rw[Ge];cases yw r.name<;>cases r.each.all bindB<;>simp<;>omega
    refine⟨λh=>?_,λh=>?_⟩
    · have h':=q.symm.trans h
      rw[Ru.tyI_bad (by simpa using h')]
    · have h':=q.symm.trans h
      exact goOn (by simpa using h')
  · refine h39.use ⟨_,rfl,(I4 hM r.each (by omega)).use ⟨_,rfl,?_⟩⟩
    have q:(bif bif bif bif !bindB { name:=r.name,sort:=1 }then true else decide (r.weight<1)then true else decide (r.weight>1000)then true else decide ((↑(IT ID r.each).length:Int)>6)then true else !r.each.all bindB) = !r.headB:=by rw[hb1];unfold Ru.headB rE;rw[hd];rw[Ge];cases yw r.name<;>cases r.each.all bindB<;>simp<;>omega
    refine⟨λh=>?_,λh=>?_⟩
    · have h':=q.symm.trans h
      rw[Ru.tyI_bad (by simpa using h')]
    · have h':=q.symm.trans h
      exact goOn (by simpa using h')
abbrev Pt (a:Bool) (b:Ru):Bool:=bif bif !a then true else !bif bif FW b then FZ b==0 else false then true else bif bif !FW b then decide (FZ b>=1)else false then decide (FZ b<=1000)else false then true else X2 b
abbrev TX (a:Nat) (b:Ru):Prop:=a<=IR (GT b)/\F0 (HZ a (GT b)) bindB=true
abbrev Ps (a:Ru):Prop:=(FX a=FX a/\FW a=FW a/\FZ a=FZ a/\IT ID (GT a)=IT ID (GT a)/\Hj (G7 a)=Hj (G7 a)/\HE (G7 a)=HE (G7 a)/\HB (G7 a)=HB (G7 a)/\IT Hq (HM (G7 a))=IT Hq (HM (G7 a))/\IT ID (HN (G7 a))=IT ID (HN (G7 a))/\IT HV (Hz (G7 a))=IT HV (Hz (G7 a))/\IN)/\IN
abbrev Pr (a:Nat) (b:Ru):Prop:=(IA 0 0=IA 0 0/\(0:Int)=(a:Int)/\IN)/\Ps b
abbrev bH (a:Nat) (b:Ru):Bool:=decide ((a:Int)<(↑(IR (IT ID (GT b))):Int))
abbrev Pq (a:Nat) (b:Ru):Prop:=bH a b=true
abbrev Pp (a:Ru) (b:Nat):D:=zr [HI,HX .i64] (IT ID (GT a)) (IJ (b:Int))
abbrev Po (a:Nat) (b:Ru):Prop:=(0:Int)<=(a:Int)/\(IT ID (GT b))[IJ (a:Int)]? = some (Pp b a)
abbrev Pm (a:Ru) (b:Nat) (c:Nat):Prop:=IR (GT a) - b<IR (GT a) - c/\(IA 0 0=IA 0 0/\Hr .i64 ((c:Int)+1)=(b:Int)/\IN)/\Ps a
abbrev TW (a:Nat) (b:Ru):Prop:=a<=IR (GT b)/\CI (IT (λ(x:Bd)=>DC x) (HZ a (GT b)))
theorem Io (r:Ru) (hl:r.wt<1099511627776):IK Tryz.prog G 141 [r.d] (· = [.int .i64 r.tyI]):=by
  unfold Ru.wt at hl;have h25:=KW (G:=G) r.body (by omega);have h36:=λh=>Ir (G:=G) r.body h r.each (by unfold nq at hl;omega);rw[yf r.body]at h25 h36;unfold Hm;refine zu (LL [(5,ze (α:=Nat) Tryz.prog G L0 0 (z8 (z6 Tryz.f141) 0) [1] (λi=>i<=r.each.length/\(r.each.take i).all bindB=true) (λi=>r.each.length - i) (λi=>[(4,.d (.int .i64 i))]) (λH _=>H)),(13,ze (α:=Nat) Tryz.prog G L0 0 (z8 (z6 Tryz.f141) 1) [1] (λi=>i<=r.each.length/\((r.each.take i).map (·.name)).Nodup) (λi=>r.each.length - i) (λi=>[(6,.d (.int .i64 i))]) (λH _=>H))]) Tryz.func141 ⟨_,rfl⟩ (pA zz zz) ?_;apply @z7 _ (IK Tryz.prog G 172 [HW (FX r)] λ(rs:IU D)=>∃(b:Bool),np rs b/\(Pt b r=true->[IP .i64 1]=qb r)/\(Pt b r=false->∃(x0:Nat),TX x0 r/\Pr x0 r/\∀(x:Nat),TX x r->(Pq x r->Po x r/\IK Tryz.prog G 173 [Pp r x] λ(rs:IU D)=>∃(b:Bool),np rs b/\((!b)=true->[IP .i64 1]=qb r)/\((!b)=false->∃(y:Nat),TX y r/\Pm r y x))/\(bH x r=false->IK Tryz.prog G 174 (dA r) λ(rs:IU D)=>∃(n:Int),rs=[IP .i64 n]/\((n != 0)=true->[IP .i64 n]=qb r)/\((n != 0)=false->∃(x0:Nat),TW x0 r/\Pr x0 r/\∀(x:Nat),TW x r->(Pq x r->(((0:Int)<=(x:Int)/\(x:Int)<=(↑(IR (IT ID (GT r))):Int))/\yH (IT ID (GT r)) 2=true)/\Po x r/\IK Tryz.prog G 175 [II (GM (IJ 0) (HZ (IJ (x:Int)) (IT ID (GT r)))),.str (Gc (IB (z1 (IT ID (GT r)) (IJ (x:Int)) 0) default))] λ(rs:IU D)=>∃(b:Bool),np rs b/\(b=true->[IP .i64 82]=qb r)/\(b=false->∃(y:Nat),TW y r/\Pm r y x))/\(bH x r=false->IK Tryz.prog G 176 (II (IT ID (GT r))::dA r) λ(rs:IU D)=>∃(n:Int),rs=[IP .i64 n]/\[IP .i64 n]=qb r)))))
  · kernel_rfl
  delta np Tb Ta X2 qb TZ dA TY Pt TX Pr Ps Pq bH Po Pp Pm TW;unfold nq at hl;refine(Nh r.name (by omega)).use ⟨_,rfl,?_⟩;have q:(bif bif !yw r.name then true else !bif bif r.hard then r.weight==0 else false then true else bif bif !r.hard then decide (r.weight>=1)else false then decide (r.weight<=1000)else false then true else decide ((↑(IT ID r.each).length:Int)>6)) = !(yw r.name&&rE r&&decide (r.each.length<=6)):=by
    unfold rE;rw[H4];have e1:decide ((r.each.length:Int)>6) = !decide (r.each.length<=6):=by rw[Ge];simp;omega
    rw[e1];cases yw r.name<;>cases r.hard<;>cases r.weight==0<;>cases decide (r.weight<=1000)<;>cases decide (r.each.length<=6)<;>simp
  refine⟨λh=>?_,λh=>?_⟩
  · have h':=q.symm.trans h
    have:(yw r.name&&rE r&&decide (r.each.length<=6))=false:=by rw[←Fe];exact h'
    rw[Ru.tyI_bad (by unfold Ru.headB;rw[this];rfl)]
  · have h':=q.symm.trans h
    have hw:(yw r.name&&rE r&&decide (r.each.length<=6))=true:=by simpa using h'
    refine⟨0,⟨by omega,by simp⟩,⟨⟨rfl,rfl,trivial⟩,⟨rfl,rfl,rfl,rfl,rfl,rfl,rfl,rfl,rfl,rfl,trivial⟩,trivial⟩,λi hi=>⟨λhlt=>?_,λhge=>?_⟩⟩
    · simp only[H4,HS]at hlt
      obtain⟨z,hz,hm⟩:=zw (l:=r.each) (x:=i) (by omega);have hzl:=mH hm;rw[HF,w6 hz];refine⟨⟨by omega,by simp[hz]⟩,(Iw z (by omega)).use ⟨_,rfl,λh=>?_,λh=>⟨i+1,⟨by omega,?_⟩,by omega,⟨rfl,?_,trivial⟩,⟨rfl,rfl,rfl,rfl,rfl,rfl,rfl,rfl,rfl,rfl,trivial⟩,trivial⟩⟩⟩
      · have:r.each.all bindB=false:=by rw[D3];exact⟨z,hm,by simpa using h⟩
        rw[Ru.tyI_bad (by unfold Ru.headB;rw[this,C8])]
      · rw[GN,hz,Fb,hi.2]
        simpa using h
      · rw[zx (by omega) (by omega)];simp
    · simp only[H4,HH]at hge
      have h2:=hi.2;rw[Gs (by omega)]at h2;have hh:r.headB=true:=by unfold Ru.headB;rw[hw,h2];rfl
      refine h25.use ⟨_,rfl,λh=>?_,λh=>?_⟩
      · rw[Ru.tyI_check hh (by simpa using h)]
      · have hc:r.body.checkI=0:=by simpa using h
        rw[Ru.tyI_env hh hc];have he:uf r.each=decide ((r.each.map (·.name)).Nodup):=by unfold uf;rw[h2,EB]
        rw[he];refine⟨0,⟨by omega,by simp⟩,⟨⟨rfl,rfl,trivial⟩,⟨rfl,rfl,rfl,rfl,rfl,rfl,rfl,rfl,rfl,rfl,trivial⟩,trivial⟩,λj hj=>⟨λhlt=>?_,λhge2=>?_⟩⟩
        · simp only[H4,HS]at hlt
          obtain⟨z,hz,hm⟩:=zw (l:=r.each) (x:=j) (by omega);rw[HF,w6 hz,xE hz];have e2:Gc (IB (some (HW z.name)) default)=z.name:=rfl;have e3:GM (IJ 0) (HZ j (IT ID r.each))=(r.each.take j).map ID:=by rw[BM];rfl
          rw[e2,e3];have hnt:=WH hz;refine⟨⟨⟨by omega,by rw[H4];omega⟩,o7 r.each⟩,⟨by omega,by simp[hz]⟩,(KE (r.each.take j) z.name (by rw[FS];omega)).use ⟨_,rfl,λh=>?_,λh=>⟨j+1,⟨by omega,hnt.2 ⟨hj.2,h⟩⟩,by omega,⟨rfl,?_,trivial⟩,⟨rfl,rfl,rfl,rfl,rfl,rfl,rfl,rfl,rfl,rfl,trivial⟩,trivial⟩⟩⟩
          · rw[IE]
            intro hn;have hn':=G0 hn;have h5:=(hnt.1 (hn'.sublist (zw8 _ (B0 _ _)))).2;rw[h]at h5;cases h5
          · rw[zx (by omega) (by omega)];simp
        · simp only[H4,HH]at hge2
          have h3:=hj.2;rw[Gs (by omega)]at h3;rw[Hv (by simpa using h3)];exact(h36 (s8 hc)).use ⟨_,rfl,rfl⟩
end
def xH {α:Type}(P:HP) (G:Nat->IQ (IU D)) (L:α->Loops) (n:Nat) (body:He) (keep:IU Nat) (Inv:α->Prop) (m:α->Nat) (tmU:α->IU (Nat×AV)) (hU:IU Box->α->IU Box) (tm:IU AV) (H:IU Box) (Q:Post):Prop :=if isScope body then HD else ∃x0,Inv x0/\Wk n tm H (gW keep (tmU x0) 0 tm) (hU H x0)/\∀x,Inv x->pw P G (L x) body (gW keep (tmU x) 0 tm) (hU H x) (gY (λtm' H'=>∃y,Inv y/\m y<m x/\Wk n tm' H' (gW keep (tmU y) 0 tm) (hU H y)) Q)
theorem zA {P:HP}{G:Nat->IQ (IU D)}{rd:IQ Nat}{n:Nat}{α:Type}(hm:P.follows .mixedOrders=true) {L:α->Loops}{body:He}{keep:IU Nat}{Inv:α->Prop}{m:α->Nat}{tmU:α->IU (Nat×AV)}{hU:IU Box->α->IU Box}(hL:∀x,zp P G rd n (L x) (loopsOf body)) (tm:IU AV) (H:IU Box) (Q:Post) (h:xH P G L n body keep Inv m tmU hU tm H Q):PW P G rd n (mkLoop body) tm H Q:=by
 unfold xH at h;split at h
 ·exact h.elim
 rename_i hsc;have hl:mkLoop body = .loop body:=by cases body<;>first|rfl|simp[isScope]at hsc
 rw[hl];obtain⟨x0,hi,hw,hr⟩:=h;refine PW.weaken hw (vC _ _ _ _) ?_;refine PW.loop (α:= { x:α // Inv x }) (λx=>gW keep (tmU x.1) 0 tm) (λx=>hU H x.1) (λx=>m x.1) (λx=>vC _ _ _ _) (λx=>?_) ⟨x0,hi⟩;refine(yk hm body _ _ _ (hL x.1) (hr x.1 x.2)).mono λe tm' H' hq=>?_;cases e with
 |normal =>
  obtain⟨y,h1,h2,h3⟩:=hq;exact⟨⟨y,h1⟩,h2,h3⟩
 |_=>exact hq
section
variable {l:IU Ru}{r:Ru}{i:Nat}
theorem sD (h:l[i]? = some r):z1 (l.map Hm) i 0=some (.str r.name):=by simp[z1,h,Hm,Gq]
theorem mE (h:l[i]? = some r):z1 (l.map Hm) i (0+1)=some (.bool r.hard):=by simp[z1,h,Hm,Gq]
theorem mD (h:l[i]? = some r):z1 (l.map Hm) i (0+1+1)=some (.int .i64 r.weight):=by simp[z1,h,Hm,Gq]
theorem sC (h:l[i]? = some r):z1 (l.map Hm) i (0+1+1+1)=some (.sl (r.each.map ID)):=by simp[z1,h,Hm,Gq]
theorem sB (h:l[i]? = some r):z1 (l.map Hm) i (0+1+1+1+1)=some (.int .i64 r.body.kind):=by simp[z1,h,Hm,Gq]
theorem sA (h:l[i]? = some r):z1 (l.map Hm) i (0+1+1+1+1+1)=some (.str r.body.name):=by simp[z1,h,Hm,Gq]
theorem r6 (h:l[i]? = some r):z1 (l.map Hm) i (0+1+1+1+1+1+1)=some (.int .i64 r.body.n):=by simp[z1,h,Hm,Gq]
theorem r7 (h:l[i]? = some r):z1 (l.map Hm) i (0+1+1+1+1+1+1+1)=some (.sl (r.body.ts.map Hq)):=by simp[z1,h,Hm,Gq]
theorem r8 (h:l[i]? = some r):z1 (l.map Hm) i (0+1+1+1+1+1+1+1+1)=some (.sl (r.body.bs.map ID)):=by simp[z1,h,Hm,Gq]
theorem r9 (h:l[i]? = some r):z1 (l.map Hm) i (0+1+1+1+1+1+1+1+1+1)=some (.sl (r.body.l.map HV)):=by simp[z1,h,Hm,Gq]
theorem sX (h:l[i]? = some r):zr [.str,.bool,.int .i64,.sl,.int .i64,.str,.int .i64,.sl,.sl,.sl] (l.map Hm) i=r.d:=by simp only[zr,Ew,sD h,mE h,mD h,sC h,sB h,sA h,r6 h,r7 h,r8 h,r9 h];rfl
end
def Pk (es:IU (D×D)) (seen:IU Nm):Prop:=(es.all λkv=>sameKind (.str []) kv.1&&Ft .bool kv.2)=true/\∀s,E8 (IB (zT es (.str s)) (.bool false))=seen.contains s
theorem Pk.set {es:IU (D×D)}{seen:IU Nm}{s:Nm}(h:Pk es seen):Pk (updD es (.str s) (.bool true)) (seen++[s]):=by
 refine⟨Tp _ _ es h.1 rfl,λs'=>?_⟩;rw[YG];by_cases e:s'=s
 ·subst e;simp[E8]
 ·rw[IE e,h.2 s'];rw[Ge];simp[e]
def rwts:IU Ru->Nat
 |[]=>0
 |r::l=>r.wt+rwts l
theorem rwts_mem:∀{l:IU Ru}{r:Ru},r∈l->r.wt<=rwts l
 |x::l,r,h=>by
  rw[rwts];rcases F5.1 h with rfl|h
  ·omega
  ·have:=rwts_mem h;omega
section
variable {G:Nat->IQ (IU D)}{M:Gf}
abbrev X3 (a:Nat×IU (D×D)) (b:IU Ru):Prop:=Hw a<=IR b/\Pk (HL a) (IT (λ(x:Ru)=>FX x) (HZ (Hw a) b))/\rulesT (IT (λ(x:Ru)=>FX x) (HZ (Hw a) b)) (Hw a) (GM (Hw a) b)=xn b
abbrev TV (a:IU Ru) (b:Nat×IU (D×D)):D:=zr [HI,EL,HX .i64,HK,HX .i64,HI,HX .i64,HK,HK,HK] (IT Hm a) (IJ (↑(Hw b):Int))
abbrev jZ (a:IU Ru):IU D:=[IP .i64 (Hw (xn a)),.int .i64 (HL (xn a))]
abbrev TU (a:Nat×IU (D×D)) (b:IU Ru):Bool:=E8 (IB (zT (HL a) ((λ(x:Sh×Nat)=>match x with|(sh,j)=>GP sh (IB (z1 (IT Hm b) (IJ (↑(Hw a):Int)) j) default)) (HI,0))) (IL false))
theorem g18 (hM:M.Ok) (l:IU Ru) (hl:l.length<1099511627776) (hw:rwts l<1099511627776):IK Tryz.prog (GG M) 84 [.sl (l.map Hm)] (· = [.int .i64 (xn l).1,.int .i64 (xn l).2]):=by
 refine zu (LL [(3,ze (α:=Nat×IU (D×D)) Tryz.prog (GG M) L0 0 (z8 (z6 Tryz.f84) 0) [4,9,10] (λx=>x.1<=l.length/\Pk x.2 ((l.take x.1).map (·.name))/\rulesT ((l.take x.1).map (·.name)) x.1 (l.drop x.1)=xn l) (λx=>l.length - x.1) (λx=>[(11,.d (.int .i64 x.1))]) (λ_ x=>[.map x.2]))]) Tryz.func84 ⟨_,rfl⟩ (zt zz) ?_;apply @z7 _ (∃(x0:Nat×IU (D×D)),X3 x0 l/\((Fu 0=Fu 0/\IT Hm l=IT Hm l/\(↑(IR (IT Hm l)):Int)=(↑(IR (IT Hm l)):Int)/\(0:Int)=(↑(Hw x0):Int)/\IN)/\[]=HL x0/\IN)/\∀(x:Nat×IU (D×D)),X3 x l->(decide ((↑(Hw x):Int)<(↑(IR (IT Hm l)):Int))=true->((0:Int)<=(↑(Hw x):Int)/\(IT Hm l)[IJ (↑(Hw x):Int)]? = some (TV l x))/\IK Tryz.prog (GG M) 115 [TV l x] λ(rs:IU D)=>∃(n:Int),rs=[IP .i64 n]/\((n != 0)=true->[IP .i64 (↑(Hw x):Int),.int .i64 n]=jZ l)/\((n != 0)=false->(F0 (HL x) λ(kv:D×D)=>sameKind ((λ(x_1:Sh×Nat)=>match x_1 with|(sh,j)=>GP sh (IB (z1 (IT Hm l) (IJ (↑(Hw x):Int)) j) default)) (HI,0)) (Hw kv)&&Ft EL (HL kv))=true/\(TU x l=true->[IP .i64 (↑(Hw x):Int),.int .i64 82]=jZ l)/\(TU x l=false->(F0 (HL x) λ(kv:D×D)=>sameKind ((λ(x_1:Sh×Nat)=>match x_1 with|(sh,j)=>GP sh (IB (z1 (IT Hm l) (IJ (↑(Hw x):Int)) j) default)) (HI,0)) (Hw kv))=true/\∃(y:Nat×IU (D×D)),X3 y l/\IR l - Hw y<IR l - Hw x/\(Fu 0=Fu 0/\IT Hm l=IT Hm l/\(↑(IR (IT Hm l)):Int)=(↑(IR (IT Hm l)):Int)/\Hr .i64 ((↑(Hw x):Int)+1)=(↑(Hw y):Int)/\IN)/\updD (HL x) ((λ(x_1:Sh×Nat)=>match x_1 with|(sh,j)=>GP sh (IB (z1 (IT Hm l) (IJ (↑(Hw x):Int)) j) default)) (HI,0)) (IL true)=HL y/\IN)))/\(decide ((↑(Hw x):Int)<(↑(IR (IT Hm l)):Int))=false->[IP .i64 0,.int .i64 0]=jZ l))
 ·kernel_rfl
 delta X3 TV jZ TU;refine⟨(0,[]),⟨by simp,⟨rfl,λs=>rfl⟩,rfl⟩,⟨⟨rfl,rfl,rfl,rfl,trivial⟩,rfl,trivial⟩,?_⟩;rintro⟨i,es⟩ ⟨hi,hes,hi2⟩;dsimp only at hi hes hi2 ⊢;refine⟨λhlt=>?_,λhge=>?_⟩
 ·simp only[H4,HS]at hlt;obtain⟨z,hz,hm⟩:=zw (l:=l) (x:=i) (by omega);rw[ye hz,rulesT]at hi2;rw[HF,sX hz,sD hz];have hzw:=rwts_mem hm;have e1:GP HI (IB (some (HW z.name)) default) = .str z.name:=rfl;refine⟨⟨by omega,by simp[hz]⟩,(g20 hM z (by omega)).use ⟨_,rfl,λh=>?_,λh=>⟨?_,λh2=>?_,λh2=>⟨?_,(i+1,updD es (.str z.name) (.bool true)),⟨by simp only;omega,?_,?_⟩,by simp only;omega,⟨rfl,rfl,rfl,?_,trivial⟩,rfl,trivial⟩⟩⟩⟩
  ·rw[Hv (by simpa using h)]at hi2;rw[←hi2]
  ·have:=hes.1;rw[G3]at this ⊢;intro kv hkv;have:=this kv hkv;have e5:sameKind (HW []) kv.1=sameKind (HW z.name) kv.1:=by cases kv.1<;>rfl
   rw[e5]at this;exact this
  ·rw[IE (by simpa using h)]at hi2;have h3:=(hes.2 z.name).symm.trans h2;rw[Hv h3]at hi2;rw[←hi2]
  ·have:=hes.1;rw[G3]at this ⊢;intro kv hkv;have:=this kv hkv;have e5:sameKind (HW []) kv.1=sameKind (HW z.name) kv.1:=by cases kv.1<;>rfl
   rw[e5,HC]at this;exact this.1
  ·simp only;rw[GN,hz,GI];exact hes.set
  ·rw[IE (by simpa using h)]at hi2;have h3:=(hes.2 z.name).symm.trans h2;rw[IE (by rw[h3];simp)]at hi2;simp only;rw[GN,hz,GI];exact hi2
  ·rw[zx (by omega) (by omega)];simp
 ·simp only[H4,HH]at hge;rw[Fx (by omega),rulesT]at hi2;rw[←hi2]
abbrev TT (a:Nat) (b:IU Ru):Prop:=a<=IR b/\rulesT (IT (λ(x:Ru)=>FX x) (HZ a b)) a (GM a b)=xn b
abbrev X4 (a:IU Ru):Prop:=IT Hm a=IT Hm a
abbrev Pj (a:Nat) (b:IU Ru):Bool:=decide ((a:Int)<(↑(IR (IT Hm b)):Int))
abbrev Pi (a:IU Ru) (b:Nat):D:=zr [HI,EL,HX .i64,HK,HX .i64,HI,HX .i64,HK,HK,HK] (IT Hm a) (IJ (b:Int))
abbrev TS (a:Nat) (b:IU Ru):Prop:=(0:Int)<=(a:Int)/\(IT Hm b)[IJ (a:Int)]? = some (Pi b a)
abbrev TR (a:Nat) (b:Nat) (c:IU Ru):Prop:=a<=b/\∀(z:Ru),c[b]? = some z->DI (IT (λ(x:Ru)=>FX x) (HZ a c)) (FX z)=false
abbrev Ph (a:IU Ru) (b:Nat):IU UInt8:=Gc (IB (z1 (IT Hm a) (IJ (b:Int)) 0) default)
abbrev Pg (a:IU Ru) (b:Nat) (c:Nat):Bool:=Ph a b==Ph a c
abbrev Pf (a:Nat) (b:Nat):Prop:=Hr .i64 ((a:Int)+1)=(b:Int)/\IN
theorem g19 (l:IU Ru) (hl:l.length<1099511627776) (hw:rwts l<1099511627776):IK Tryz.prog G 89 [.sl (l.map Hm)] (· = [.int .i64 (xn l).1,.int .i64 (xn l).2]):=by
 refine zu (LL [(2,xH (α:=Nat) Tryz.prog G (λi=>LL [(8,ze (α:=Nat) Tryz.prog G L0 0 (z8 (z8 (z6 Tryz.f89) 0) 0) [0,4] (λx=>x<=i/\∀z,l[i]? = some z->((l.take x).map (·.name)).contains z.name=false) (λx=>i - x) (λx=>[(6,.d (.int .i64 x))]) (λH _=>H))]) 0 (z8 (z6 Tryz.f89) 0) [0] (λx=>x<=l.length/\rulesT ((l.take x).map (·.name)) x (l.drop x)=xn l) (λx=>l.length - x) (λx=>[(4,.d (.int .i64 x))]) (λH _=>H))]) Tryz.func89 ⟨_,rfl⟩ (zt (zA mixed (λ_=>zt zz))) ?_;apply @z7 _ (∃(x0:Nat),TT x0 l/\((X4 l/\(0:Int)=(x0:Int)/\IN)/\IN)/\∀(x:Nat),TT x l->(Pj x l=true->TS x l/\IK Tryz.prog G 141 [Pi l x] λ(rs:IU D)=>∃(n:Int),rs=[IP .i64 n]/\((n != 0)=true->[IP .i64 (x:Int),.int .i64 n]=jZ l)/\((n != 0)=false->∃(x0:Nat),TR x0 x l/\((X4 l/\(x:Int)=(x:Int)/\(0:Int)=(x0:Int)/\IN)/\IN)/\∀(x_1:Nat),TR x_1 x l->(decide ((x_1:Int)<(x:Int))=true->TS x_1 l/\TS x l/\(Pg l x_1 x=true->[IP .i64 (x:Int),.int .i64 82]=jZ l)/\(Pg l x_1 x=false->∃(y:Nat),TR y x l/\x - y<x - x_1/\(X4 l/\(x:Int)=(x:Int)/\Pf x_1 y)/\IN))/\(decide ((x_1:Int)<(x:Int))=false->∃(y:Nat),TT y l/\IR l - y<IR l - x/\(X4 l/\Pf x y)/\IN)))/\(Pj x l=false->[IP .i64 0,.int .i64 0]=jZ l))
 ·kernel_rfl
 delta TT X4 Pj TS Pi jZ X3 TV TU TR Pg Ph Pf;refine⟨0,⟨by omega,rfl⟩,by simp,λi hi=>⟨λhlt=>?_,λhge=>?_⟩⟩
 ·simp only[H4,HS]at hlt;obtain⟨z,hz,hm⟩:=zw (l:=l) (x:=i) (by omega);have hi2:=hi.2;rw[ye hz,rulesT]at hi2;rw[HF,sX hz];have hzw:=rwts_mem hm;refine⟨⟨by omega,by simp[hz]⟩,(Io z (by omega)).use ⟨_,rfl,λh=>?_,λh=>?_⟩⟩
  ·rw[Hv (by simpa using h)]at hi2;rw[←hi2]
  ·rw[IE (by simpa using h)]at hi2;refine⟨0,⟨by omega,λ_ _=>rfl⟩,by simp,λk hk=>⟨λhlt2=>?_,λhge2=>?_⟩⟩
   ·simp only[HS]at hlt2;obtain⟨u,hu,hum⟩:=zw (l:=l) (x:=k) (by omega);rw[HF,sX hu,sD hu,sD hz];have e1:Gc (IB (some (HW u.name)) default)=u.name:=rfl;have e2:Gc (IB (some (HW z.name)) default)=z.name:=rfl;rw[e1,e2];refine⟨⟨by omega,by simp[hu]⟩,⟨by omega,by simp[hz]⟩,λhe=>?_,λhe=>⟨k+1,⟨by omega,λz' hz'=>?_⟩,by omega,?_⟩⟩
    ·have he':u.name=z.name:=by simpa using he
     have hc:((l.take i).map (·.name)).contains z.name=true:=by
      rw[Dt,Gd];refine⟨u,?_,he'⟩;have:(l.take i)[k]? = some u:=by rw[Fa,Hv (by omega)];exact hu
      exact GS this
     rw[Hv hc]at hi2;rw[←hi2]
    ·rw[hz]at hz';cases hz';have he' :¬ u.name=z.name:=by simpa using he
     have h5:=hk.2 z hz;rw[GN,hu];simp only[Cf,GI,Gb,FQ,Ao,FK,CB,HH]at h5 ⊢;rintro (h6|h6)
     ·exact h5 h6
     ·exact he' h6.symm
    ·rw[zx (by omega) (by omega)];simp
   ·simp only[HH]at hge2;have hki:k=i:=by omega
    subst hki;have hc:=hk.2 z hz;rw[IE (by rw[hc];simp)]at hi2;refine⟨k+1,⟨by omega,?_⟩,by omega,?_⟩
    ·rw[GN,hz,GI];exact hi2
    ·rw[zx (by omega) (by omega)];simp
 ·simp only[H4,HH]at hge;have hi2:=hi.2;rw[Fx (by omega),rulesT]at hi2;rw[←hi2]
end
section
variable {G:Nat->IQ (IU D)}{M:Gf}
abbrev Pd (a:Fm) (b:Int):Bool:=bif bif bif decide ((↑(IR (IT HV (Hz a))):Int)>4)then true else decide ((↑(IR (IT Hq (HM a))):Int)>4)then true else decide ((↑(IR (IT ID (HN a))):Int)>10)then true else decide (b>300)
abbrev g35q4:Prop:= ∃(b:Bool),[IL false]=[IL b]
abbrev Pc (a:Fm):Prop:=(Hj a=Hj a/\HE a=HE a/\HB a=HB a/\IT Hq (HM a)=IT Hq (HM a)/\IT ID (HN a)=IT ID (HN a)/\IT HV (Hz a)=IT HV (Hz a)/\IN)/\IN
abbrev Pb (a:Fm) (b:Nat):D:=zr [HX .i64,HI,HX .i64,HK,HK,HK] (IT HV (Hz a)) (IJ (b:Int))
theorem Im (f:Fm) (hf:f.wt<4611686018427387904):IK Tryz.prog G 42 [f.d] (λrs=>∃b,rs=[.bool b]):=by
 induction f using Ex with
 |h f ih =>
 have h55:=L8 (G:=G) f (by have:=f.rank_le_wt;omega);have hwt:=f.wt_eq;have hwl:=rG f.l;rw[yf f]at h55 ⊢;refine zu (LL [(4,ze (α:=Nat) Tryz.prog G L0 0 (z8 (z6 Tryz.f42) 0) [1] (λi=>i<=f.l.length) (λi=>f.l.length - i) (λi=>[(3,.d (.int .i64 i))]) (λH _=>H))]) Tryz.func42 ⟨_,true,rfl⟩ (zt zz) ?_;apply @z7 _ (IK Tryz.prog G 80 [Hd [.int .i64 (Hj f),.str (HE f),.int .i64 (HB f),.sl (IT Hq (HM f)),.sl (IT ID (HN f)),.sl (IT HV (Hz f))]] λ(rs:IU D)=>∃(n:Int),rs=[IP .i64 n]/\(Pd f n=true->g35q4)/\(Pd f n=false->∃(x0:Nat),x0<=IR (Hz f)/\((IA 0 0=IA 0 0/\(0:Int)=(x0:Int)/\IN)/\Pc f)/\∀(x:Nat),x<=IR (Hz f)->(decide ((x:Int)<(↑(IR (IT HV (Hz f))):Int))=true->((0:Int)<=(x:Int)/\(IT HV (Hz f))[IJ (x:Int)]? = some (Pb f x))/\IK Tryz.prog G 42 [Pb f x] λ(rs:IU D)=>∃(b:Bool),rs=[IL b]/\((!b)=true->g35q4)/\((!b)=false->∃(y:Nat),y<=IR (Hz f)/\IR (Hz f) - y<IR (Hz f) - x/\(IA 0 0=IA 0 0/\Hr .i64 ((x:Int) + 1)=(y:Int)/\IN)/\Pc f))/\(decide ((x:Int)<(↑(IR (IT HV (Hz f))):Int))=false->∃(b:Bool),[IL true]=[IL b])))
 ·kernel_rfl
 delta Pd g35q4 Pc Pb;refine h55.use ⟨_,rfl,λ_=>⟨_,rfl⟩,λ_=>⟨0,by omega,⟨⟨rfl,rfl,trivial⟩,⟨rfl,rfl,rfl,rfl,rfl,rfl,trivial⟩,trivial⟩,λi hi=>⟨λhlt=>?_,λ_=>⟨_,rfl⟩⟩⟩⟩;simp only[H4,HS]at hlt;obtain⟨z,hz,hm⟩:=zw (l:=f.l) (x:=i) (by omega);rw[HF,wZ hz];have hzw:=CO hm;refine⟨⟨by omega,by simp[hz]⟩,(ih z hm (by omega)).mono ?_⟩;rintro rs ⟨b,rfl⟩;refine⟨b,rfl,λ_=>⟨_,rfl⟩,λ_=>⟨i+1,by omega,by omega,⟨rfl,?_,trivial⟩,⟨rfl,rfl,rfl,rfl,rfl,rfl,trivial⟩,trivial⟩⟩;rw[zx (by omega) (by omega)];simp
end
def envL:En:=[⟨[108],1⟩,⟨[115],2⟩]
def Kn (a b:Nm):Fm:= .mk 3 [] 0 [⟨2,a,0⟩,⟨2,b,0⟩] [] []
def allL:Fm:= .mk 14 [] 0 [] [⟨[115],2⟩] [Kn [108] [115]]
def ruL:Ru:=⟨[114],true,0,[⟨[108],1⟩],allL⟩
theorem l1:gA envL ⟨3,[115],0⟩=(6,0):=by decide +kernel
theorem l2:xn [ruL,ruL]=(1,82):=by decide +kernel
theorem l3:(Kn [108] [115]).tyI envL=0:=by decide +kernel
theorem l4:(Kn [115] [108]).tyI envL=80:=by decide +kernel
theorem l5:(Kn [108] [116]).tyI envL=81:=by decide +kernel
section
variable {M:Gf}
end
end Go.Fo
namespace Go.Fo
open Go Go.Sx
structure Sl where
 name:Nm
 day:Int
 hour:Int
 deriving DecidableEq,Inhabited
def Sl.d (x:Sl):D:= .agg [.str x.name,.int .i64 x.day,.int .i64 x.hour]
structure Rm where
 name:Nm
 house:Int
 seats:Int
 shut:IU Int
 deriving DecidableEq,Inhabited
def Rm.d (x:Rm):D:= .agg [.str x.name,.int .i64 x.house,.int .i64 x.seats,.sl (x.shut.map intD)]
structure Pe where
 name:Nm
 away:IU Int
 deriving DecidableEq,Inhabited
def Pe.d (x:Pe):D:= .agg [.str x.name,.sl (x.away.map intD)]
structure Gr where
 name:Nm
 size:Int
 deriving DecidableEq,Inhabited
def Gr.d (x:Gr):D:= .agg [.str x.name,.int .i64 x.size]
structure Le where
 name:Nm
 who:IU Int
 groups:IU Int
 deriving DecidableEq,Inhabited
def Le.d (x:Le):D:= .agg [.str x.name,.sl (x.who.map intD),.sl (x.groups.map intD)]
structure Pl where
 slot:Int
 room:Int
 deriving DecidableEq,Inhabited
def Pl.d (x:Pl):D:= .agg [.int .i64 x.slot,.int .i64 x.room]
structure Ev where
 name:Nm
 sort:Int
 at_:Int
 deriving DecidableEq,Inhabited
def Ev.d (x:Ev):D:= .agg [.str x.name,.int .i64 x.sort,.int .i64 x.at_]
structure Mv where
 lesson:Int
 slot:Int
 room:Int
 deriving DecidableEq,Inhabited
def Mv.d (x:Mv):D:= .agg [.int .i64 x.lesson,.int .i64 x.slot,.int .i64 x.room]
theorem f5 {l:IU Sl}{x:Sl}{i:Nat}(h:l[i]? = some x):z1 (l.map Sl.d) i (0)=some (.str x.name):=by simp[z1,h,Sl.d,Gq]
theorem vj {l:IU Sl}{x:Sl}{i:Nat}(h:l[i]? = some x):z1 (l.map Sl.d) i (0+1)=some (.int .i64 x.day):=by simp[z1,h,Sl.d,Gq]
theorem vi {l:IU Sl}{x:Sl}{i:Nat}(h:l[i]? = some x):z1 (l.map Sl.d) i (0+1+1)=some (.int .i64 x.hour):=by simp[z1,h,Sl.d,Gq]
theorem uR {l:IU Sl}{x:Sl}{i:Nat}(h:l[i]? = some x):zr [.str,.int .i64,.int .i64] (l.map Sl.d) i=x.d:=by simp only[zr,Ew,f5 h,vj h,vi h];rfl
theorem uQ {l:IU Sl}{x:Sl}{i:Nat}(h:l[i]? = some x):(l.map Sl.d)[i]? = some x.d:=by rw[G5,h];rfl
theorem f6 {l:IU Rm}{x:Rm}{i:Nat}(h:l[i]? = some x):z1 (l.map Rm.d) i (0)=some (.str x.name):=by simp[z1,h,Rm.d,Gq]
theorem mC {l:IU Rm}{x:Rm}{i:Nat}(h:l[i]? = some x):z1 (l.map Rm.d) i (0+1)=some (.int .i64 x.house):=by simp[z1,h,Rm.d,Gq]
theorem mB {l:IU Rm}{x:Rm}{i:Nat}(h:l[i]? = some x):z1 (l.map Rm.d) i (0+1+1)=some (.int .i64 x.seats):=by simp[z1,h,Rm.d,Gq]
theorem f7 {l:IU Rm}{x:Rm}{i:Nat}(h:l[i]? = some x):z1 (l.map Rm.d) i (0+1+1+1)=some (.sl (x.shut.map intD)):=by simp[z1,h,Rm.d,Gq]
theorem uP {l:IU Rm}{x:Rm}{i:Nat}(h:l[i]? = some x):zr [.str,.int .i64,.int .i64,.sl] (l.map Rm.d) i=x.d:=by simp only[zr,Ew,f6 h,mC h,mB h,f7 h];rfl
theorem tY {l:IU Rm}{x:Rm}{i:Nat}(h:l[i]? = some x):(l.map Rm.d)[i]? = some x.d:=by rw[G5,h];rfl
theorem f8 {l:IU Pe}{x:Pe}{i:Nat}(h:l[i]? = some x):z1 (l.map Pe.d) i (0)=some (.str x.name):=by simp[z1,h,Pe.d,Gq]
theorem fy {l:IU Pe}{x:Pe}{i:Nat}(h:l[i]? = some x):z1 (l.map Pe.d) i (0+1)=some (.sl (x.away.map intD)):=by simp[z1,h,Pe.d,Gq]
theorem pu {l:IU Pe}{x:Pe}{i:Nat}(h:l[i]? = some x):zr [.str,.sl] (l.map Pe.d) i=x.d:=by simp only[zr,Ew,f8 h,fy h];rfl
theorem nN {l:IU Pe}{x:Pe}{i:Nat}(h:l[i]? = some x):(l.map Pe.d)[i]? = some x.d:=by rw[G5,h];rfl
theorem fx {l:IU Gr}{x:Gr}{i:Nat}(h:l[i]? = some x):z1 (l.map Gr.d) i (0)=some (.str x.name):=by simp[z1,h,Gr.d,Gq]
theorem mA {l:IU Gr}{x:Gr}{i:Nat}(h:l[i]? = some x):z1 (l.map Gr.d) i (0+1)=some (.int .i64 x.size):=by simp[z1,h,Gr.d,Gq]
theorem nM {l:IU Gr}{x:Gr}{i:Nat}(h:l[i]? = some x):zr [.str,.int .i64] (l.map Gr.d) i=x.d:=by simp only[zr,Ew,fx h,mA h];rfl
theorem ke {l:IU Gr}{x:Gr}{i:Nat}(h:l[i]? = some x):(l.map Gr.d)[i]? = some x.d:=by rw[G5,h];rfl
theorem fw {l:IU Le}{x:Le}{i:Nat}(h:l[i]? = some x):z1 (l.map Le.d) i (0)=some (.str x.name):=by simp[z1,h,Le.d,Gq]
theorem fu {l:IU Le}{x:Le}{i:Nat}(h:l[i]? = some x):z1 (l.map Le.d) i (0+1)=some (.sl (x.who.map intD)):=by simp[z1,h,Le.d,Gq]
theorem pt {l:IU Le}{x:Le}{i:Nat}(h:l[i]? = some x):z1 (l.map Le.d) i (0+1+1)=some (.sl (x.groups.map intD)):=by simp[z1,h,Le.d,Gq]
theorem uO {l:IU Le}{x:Le}{i:Nat}(h:l[i]? = some x):zr [.str,.sl,.sl] (l.map Le.d) i=x.d:=by simp only[zr,Ew,fw h,fu h,pt h];rfl
theorem uN {l:IU Le}{x:Le}{i:Nat}(h:l[i]? = some x):(l.map Le.d)[i]? = some x.d:=by rw[G5,h];rfl
theorem xZ {l:IU Pl}{x:Pl}{i:Nat}(h:l[i]? = some x):z1 (l.map Pl.d) i (0)=some (.int .i64 x.slot):=by simp[z1,h,Pl.d,Gq]
theorem xY {l:IU Pl}{x:Pl}{i:Nat}(h:l[i]? = some x):z1 (l.map Pl.d) i (0+1)=some (.int .i64 x.room):=by simp[z1,h,Pl.d,Gq]
theorem vh {l:IU Pl}{x:Pl}{i:Nat}(h:l[i]? = some x):zr [.int .i64,.int .i64] (l.map Pl.d) i=x.d:=by simp only[zr,Ew,xZ h,xY h];rfl
theorem ft (l:IU Pl):yH (l.map Pl.d) 2=true:=by unfold yH;rw[G3];intro d hd;obtain⟨t,_,rfl⟩:=Gd.1 hd;rfl
theorem vg {l:IU Pl}{x:Pl}{i:Nat}(h:l[i]? = some x):(l.map Pl.d)[i]? = some x.d:=by rw[G5,h];rfl
theorem lz {l:IU Ev}{x:Ev}{i:Nat}(h:l[i]? = some x):z1 (l.map Ev.d) i (0)=some (.str x.name):=by simp[z1,h,Ev.d,Gq]
theorem ly {l:IU Ev}{x:Ev}{i:Nat}(h:l[i]? = some x):z1 (l.map Ev.d) i (0+1)=some (.int .i64 x.sort):=by simp[z1,h,Ev.d,Gq]
theorem fq {l:IU Ev}{x:Ev}{i:Nat}(h:l[i]? = some x):z1 (l.map Ev.d) i (0+1+1)=some (.int .i64 x.at_):=by simp[z1,h,Ev.d,Gq]
theorem nL {l:IU Ev}{x:Ev}{i:Nat}(h:l[i]? = some x):zr [.str,.int .i64,.int .i64] (l.map Ev.d) i=x.d:=by simp only[zr,Ew,lz h,ly h,fq h];rfl
theorem lx (l:IU Ev):yH (l.map Ev.d) 3=true:=by unfold yH;rw[G3];intro d hd;obtain⟨t,_,rfl⟩:=Gd.1 hd;rfl
theorem nK {l:IU Ev}{x:Ev}{i:Nat}(h:l[i]? = some x):(l.map Ev.d)[i]? = some x.d:=by rw[G5,h];rfl
theorem X5 (l:IU Mv):yH (l.map Mv.d) 3=true:=by unfold yH;rw[G3];intro d hd;obtain⟨t,_,rfl⟩:=Gd.1 hd;rfl
structure Sc where
 slots:IU Sl
 rooms:IU Rm
 people:IU Pe
 groups:IU Gr
 lessons:IU Le
 deriving DecidableEq,Inhabited
def Sc.cells (s:Sc):IU D:=[.sl (s.slots.map Sl.d),.sl (s.rooms.map Rm.d),.sl (s.people.map Pe.d),.sl (s.groups.map Gr.d),.sl (s.lessons.map Le.d)]
def Sc.d (s:Sc):D:= .agg s.cells
abbrev Wk':=IU Pl
def xl (w:Wk'):D:= .agg [.sl (w.map Pl.d)]
theorem xG {l:IU Int}{i:Nat}{z:Int}(h:l[i]? = some z):(l.map intD)[i]? = some (.int .i64 z):=by rw[G5,h];rfl
theorem kc {l:IU Nm}{i:Nat}{z:Nm}(h:l[i]? = some z):z1 (l.map HW) i 0=some (.str z):=by simp[z1,h,Gq]
theorem iq {l:IU Nm}{i:Nat}{z:Nm}(h:l[i]? = some z):(l.map HW)[i]? = some (.str z):=by rw[G5,h];rfl
end Go.Fo
open Go.Fo.Gr renaming d->Hx
open Go.Fo.Le renaming d->H7
open Go.Fo.Mv renaming d->Dg
open Go.Fo.Pe renaming d->Hy
open Go.Fo.Pl renaming d->H6
open Go.Fo.Rm renaming d->H8
open Go.Fo.Sc renaming groups->Hh,lessons->Hn,people->Hi,rooms->Hg,slots->Hk
open Go.Fo.Sl renaming d->H9
namespace Go.Fo
open Go Go.Sx Go.Proofs
def placesF:Int->IU Int->Int->Bool
 |_,[],_=>true
 |last,z::r,n=>decide (last<z)&&decide (z<n)&&placesF z r n
def y3 (l:IU Int) (n:Int):Bool:=placesF (-1) l n
def vw (l:IU Int):Int:=(l.getLast?).getD (-1)
theorem tX {l:IU Int}{x:Nat}{z:Int}(h:l[x]? = some z):vw (l.take (x+1))=z:=by
 have hlt:x<l.length:=by
  rcases G4 x l.length with h' |h'
  ·exact h'
  ·rw[Gt h']at h;cases h
 unfold vw;rw[GN,h];simp
def sW (x:Sl):Bool:=decide (0<=x.day)&&decide (x.day<=6)&&decide (0<=x.hour)&&decide (x.hour<=11)
def uM (l:IU Sl):Bool:=l.all sW&&decide ((l.map λx=>(x.day,x.hour)).Nodup)&& !l.isEmpty
def za (l:IU Nm):Bool:=l.all yw&&decide l.Nodup
section
variable {G:Nat->IQ (IU D)}
abbrev fp (a:Nat) (b:IU Int) (c:Int):Prop:=a<=IR b/\DI (HZ a b) c=false
abbrev kb (a:Nat) (b:IU Int):Bool:=decide ((a:Int)<(↑(IR (IT intD b)):Int))
abbrev uL (a:IU Int) (b:Nat):Int:=Hf (IB (z1 (IT intD a) (IJ (b:Int)) 0) default)
theorem X6 (l:IU Int) (n:Int) (hl:l.length<4611686018427387904):IK Tryz.prog G 209 [.sl (l.map intD),.int .i64 n] (· = [.bool (l.contains n)]):=by
 refine zu (LL [(2,ze (α:=Nat) Tryz.prog G L0 0 (z8 (z6 Tryz.f209) 0) [0,1] (λx=>x<=l.length/\(l.take x).contains n=false) (λx=>l.length - x) (λx=>[(5,.d (.int .i64 x))]) (λH _=>H))]) Tryz.func209 ⟨_,rfl⟩ (zt zz) ?_;apply @z7 _ (∃(x0:Nat),fp x0 l n/\((IT intD l=IT intD l/\n=n/\(0:Int)=(x0:Int)/\IN)/\IN)/\∀(x:Nat),fp x l n->(kb x l=true->((0:Int)<=(x:Int)/\(IT intD l)[IJ (x:Int)]? = some (IP .i64 (uL l x)))/\((uL l x==n)=true->[IL true]=[IL (DI l n)])/\((uL l x==n)=false->∃(y:Nat),fp y l n/\IR l - y<IR l - x/\(IT intD l=IT intD l/\n=n/\Hr .i64 ((x:Int)+1)=(y:Int)/\IN)/\IN))/\(kb x l=false->[IL false]=[IL (DI l n)]))
 ·kernel_rfl
 delta fp kb uL;refine⟨0,⟨by omega,by simp⟩,by simp,λx hx=>⟨λhlt=>?_,λhge=>?_⟩⟩
 ·simp only[H4,HS]at hlt;obtain⟨z,hz,hm⟩:=zw (l:=l) (x:=x) (by omega);rw[HF,yK hz];have e0:Hf (IB (some (IP .i64 z)) default)=z:=rfl;rw[e0];refine⟨⟨by omega,xG hz⟩,λh=>?_,λh=>⟨x+1,⟨by omega,?_⟩,by omega,?_⟩⟩
  ·have:z=n:=by simpa using h
   subst this;rw[Dt.2 hm]
  ·rw[GN,hz];have:z≠n:=by simpa using h
   have h2:=hx.2;simp at h2 ⊢;exact⟨h2,λe=>this e.symm⟩
  ·rw[zx (by omega) (by omega)];simp
 ·simp only[H4,HH]at hge;have h2:=hx.2;rw[Gs (by omega)]at h2;rw[h2]
abbrev bG (a:Nat) (b:IU Int) (c:Int):Prop:=a<=IR b/\(-1)<=vw (HZ a b)/\placesF (vw (HZ a b)) (GM a b) c=y3 b c
abbrev bF (a:Nat) (b:IU Int):Prop:=(0:Int)<=(a:Int)/\(IT intD b)[IJ (a:Int)]? = some (IP .i64 (uL b a))
abbrev WG (a:IU Int) (b:Nat) (c:Int):Prop:=(bif decide (uL a b<0)then true else decide (uL a b>=c))=false/\decide ((b:Int)>0)=true
abbrev bE (a:Nat):Int:=Hr .i64 ((a:Int) - 1)
abbrev WF (a:IU Int) (b:Nat):Int:=Hf (IB (z1 (IT intD a) (IJ (bE b)) 0) default)
abbrev WE (a:IU Int) (b:Nat) (c:Int):Bool:=bif bif decide (uL a b<0)then true else decide (uL a b>=c)then true else bif decide ((b:Int)>0)then decide (WF a b>=uL a b)else false
theorem NW (l:IU Int) (n:Int) (hl:l.length<4611686018427387904):IK Tryz.prog G 144 [.sl (l.map intD),.int .i64 n] (· = [.bool (y3 l n)]):=by
 refine zu (LL [(2,ze (α:=Nat) Tryz.prog G L0 0 (z8 (z6 Tryz.f144) 0) [0,1] (λx=>x<=l.length/\ -1<=vw (l.take x)/\placesF (vw (l.take x)) (l.drop x) n=y3 l n) (λx=>l.length - x) (λx=>[(5,.d (.int .i64 x))]) (λH _=>H))]) Tryz.func144 ⟨_,rfl⟩ (zt zz) ?_;apply @z7 _ (∃(x0:Nat),bG x0 l n/\((IT intD l=IT intD l/\n=n/\(0:Int)=(x0:Int)/\IN)/\IN)/\∀(x:Nat),bG x l n->(kb x l=true->bF x l/\(decide (uL l x<0)=false->bF x l)/\(WG l x n->0<=bE x/\(IT intD l)[IJ (bE x)]? = some (IP .i64 (WF l x)))/\(WG l x n->bF x l)/\(WE l x n=true->[IL false]=[IL (y3 l n)])/\(WE l x n=false->∃(y:Nat),bG y l n/\IR l - y<IR l - x/\(IT intD l=IT intD l/\n=n/\Hr .i64 ((x:Int)+1)=(y:Int)/\IN)/\IN))/\(kb x l=false->[IL true]=[IL (y3 l n)]))
 ·kernel_rfl
 delta bG kb fp uL bF WG bE WF WE;refine⟨0,⟨by omega,by simp[vw],by simp[y3,vw]⟩,by simp,λx hx=>⟨λhlt=>?_,λhge=>?_⟩⟩
 ·simp only[H4,HS]at hlt;obtain⟨z,hz,hm⟩:=zw (l:=l) (x:=x) (by omega);have hx2:=hx.2.2;rw[ye hz,placesF]at hx2;have e0:Hf (IB (some (IP .i64 z)) default)=z:=rfl;simp only[HF,yK hz,e0];have key:∀(p:Int),(0<x->vw (l.take x)=p)->(bif bif decide (z<0)then true else decide (z>=n)then true else bif decide ((x:Int)>0)then decide (p>=z)else false) = !(decide (vw (l.take x)<z)&&decide (z<n)):=by
   intro p hp;simp only[zH,zn];rcases C4 x with h0|h0
   ·subst h0;have:vw (HZ 0 l) = -1:=rfl;rw[this,Ge];simp;omega
   ·have h1:=hp h0;have h2:=hx.2.1;rw[h1]at h2 ⊢;rw[Ge];simp;omega
  have hprev:∃p,(0<x->vw (l.take x)=p)/\Hf (IB (z1 (IT intD l) (Ho.wrap ((x:Int) - 1)).toNat 0) default)=p/\(0<x->(IT intD l)[(Ho.wrap ((x:Int) - 1)).toNat]? = some (.int .i64 p)):=by
   rw[zx (by omega) (by omega)];rcases C4 x with h0|h0
   ·exact⟨_,λh=>by omega,rfl,λh=>by omega⟩
   ·obtain⟨y,hy,_⟩:=zw (l:=l) (x:=x - 1) (by omega);have e1:((x:Int) - 1).toNat=x - 1:=by omega
    refine⟨y,λ_=>?_,?_,λ_=>?_⟩
    ·have:=tX hy;rw[show x - 1+1=x by omega]at this;exact this
    ·rw[e1,yK hy];rfl
    ·rw[e1];exact xG hy
  obtain⟨p,hp1,hp2,hp3⟩:=hprev;rw[hp2,key p hp1];have hg:0<=(x:Int)/\(IT intD l)[x]? = some (IP .i64 z):=⟨by omega,xG hz⟩;refine⟨hg,λ_=>hg,λh=>⟨by rw[zx (by omega) (by omega)];have:=G0 h.2;omega,hp3 (by have:=G0 h.2;omega)⟩,λ_=>hg,λh=>?_,λh=>⟨x+1,⟨by omega,?_,?_⟩,by omega,?_⟩⟩
  ·rw[←hx2];rw[Fe]at h;rw[h];rfl
  ·have h2:=hx.2.1;rw[tX hz];simp at h;omega
  ·rw[tX hz,←hx2];rw[C5]at h;rw[h];rfl
  ·rw[zx (by omega) (by omega)];simp
 ·simp only[H4,HH]at hge;have h2:=hx.2.2;rw[Fx (by omega)]at h2;rw[←h2];rfl
theorem u6 {α:Type}{l:IU α}{x:Nat}{z:α}(h:l[x]? = some z):(l.take (x+1)).Nodup↔(l.take x).Nodup/\z∉l.take x:=by
 rw[GN,h];simp only[Cf,BW,EO,DM,not_false_eq_true,IU.nodup_nil,and_self,CB,true_and];constructor
 ·rintro⟨h1,h2⟩;exact⟨h1,λhm=>h2 z hm z rfl rfl⟩
 ·rintro⟨h1,h2⟩;exact⟨h1,λa ha b hb e=>by subst hb;subst e;exact h2 ha⟩
abbrev bD (a:Nat) (b:IU UInt8) (c:IU UInt8):Prop:=a<=IR b+1/\∀(i:Nat),i<a->¬(i+IR c<=IR b/\HZ (IR c) (GM i b)=c)
abbrev bC (a:Nat) (b:IU UInt8):Int:=Hr .i64 ((a:Int)+(↑(IR b):Int))
abbrev WD (a:Nat) (b:IU UInt8) (c:IU UInt8):Prop:=bC a b<=(↑(IR c):Int)
abbrev WC (a:Nat) (b:IU UInt8) (c:IU UInt8):Bool:=decide (WD a b c)
abbrev WB (a:Nat) (b:IU UInt8) (c:IU UInt8):Bool:=GM (IJ (a:Int)) (HZ (IJ (bC a b)) c)==b
theorem h210 (t s:IU UInt8) (ht:t.length<2305843009213693952) (hs:s.length<4611686018427387906):IK Tryz.prog G 210 [.str t,.str s] (· = [.bool (xa t s)]):=by
 refine zu (LL [(2,ze (α:=Nat) Tryz.prog G L0 0 (z8 (z6 Tryz.f210) 0) [0,1] (λx=>x<=t.length+1/\∀i,i<x->¬ (i+s.length<=t.length/\(t.drop i).take s.length=s)) (λx=>t.length+1 - x) (λx=>[(5,.d (.int .i64 x))]) (λH _=>H))]) Tryz.func210 ⟨_,rfl⟩ (zt zz) ?_;apply @z7 _ (∃(x0:Nat),bD x0 t s/\((t=t/\s=s/\(0:Int)=(x0:Int)/\IN)/\IN)/\∀(x:Nat),bD x t s->(WC x s t=true->((0:Int)<=(x:Int)/\(x:Int)<=bC x s/\WD x s t)/\(WB x s t=true->[IL true]=[IL (xa t s)])/\(WB x s t=false->∃(y:Nat),bD y t s/\IR t+1 - y<IR t+1 - x/\(t=t/\s=s/\Hr .i64 ((x:Int)+1)=(y:Int)/\IN)/\IN))/\(WC x s t=false->[IL false]=[IL (xa t s)]))
 ·kernel_rfl
 delta bD WC WD bC WB;refine⟨0,⟨by omega,λi hi=>by omega⟩,by simp,λx hx=>?_⟩;rw[zx (by omega) (by omega)];have hcut:(x+s.length<=t.length)->GM x (HZ (x+s.length) t)=HZ s.length (GM x t):=λ_=>by rw[IU.drop_take];congr 1;omega
 refine⟨λhlt=>?_,λhge=>?_⟩
 ·simp only[HS]at hlt;have e1:(IJ ((x:Int)+(s.length:Int)))=x+s.length:=by omega
  rw[e1,HF,hcut (by omega)];refine⟨⟨by omega,by omega,by omega⟩,λh=>?_,λh=>?_⟩
  ·rw[vz.2 ⟨x,by omega,by simpa using h⟩]
  ·refine⟨x+1,⟨by omega,λi hi=>?_⟩,by omega,?_⟩
   ·rcases G4 i x with h1|h1
    ·exact hx.2 i h1
    ·have:i=x:=by omega
     subst this;rintro⟨_,h2⟩;simp[h2]at h
   ·rw[zx (by omega) (by omega)];simp
 ·simp only[HH]at hge;have:xa t s=false:=by
   cases hb:xa t s with
   |false=>rfl
   |true =>
    obtain⟨i,h1,h2⟩:=vz.1 hb;exact Hu ⟨h1,h2⟩ (hx.2 i (by omega))
  rw[this]
abbrev bB (a:Nat) (b:IU UInt8):Prop:=a<=IR b/\∀(i:Nat),i<a->oH i (DF b i (0:UInt8))=true
abbrev ka (a:IU UInt8) (b:Nat):Int:=(↑(B9 (DF a (IJ (b:Int)) (0:UInt8))):Int)
abbrev WA (a:IU UInt8) (b:Nat):Bool:=bif !bif decide (ka a b>=97)then decide (ka a b<=122)else false then bif (b:Int)==0 then true else bif !bif decide (ka a b>=48)then decide (ka a b<=57)else false then ka a b != 95 else false else false
abbrev V0 (a:IU UInt8):Bool:=bif decide ((↑(IR a):Int)>=1)then decide ((↑(IR a):Int)<=64)else false
abbrev V1 (a:IU UInt8):Prop:=V0 a=true
abbrev h184q5:IU UInt8:=Gx (Gy (Gu #[(32:UInt8)]))
abbrev h184q3:Nat:=IR h184q5
theorem KA (s:IU UInt8) (hs:s.length<4611686018427387904):IK Tryz.prog G 184 [.str s] (· = [.bool (yw s)]):=by
 refine zu (LL [(2,ze (α:=Nat) Tryz.prog G L0 0 (z8 (z6 Tryz.f184) 0) [0] (λx=>x<=s.length/\∀i,i<x->oH i (s.getD i 0)=true) (λx=>s.length - x) (λx=>[(3,.d (.int .i64 x))]) (λH _=>H))]) Tryz.func184 ⟨_,rfl⟩ (zt zz) ?_;apply @z7 _ (∃(x0:Nat),bB x0 s/\((s=s/\(0:Int)=(x0:Int)/\IN)/\IN)/\∀(x:Nat),bB x s->(decide ((x:Int)<(↑(IR s):Int))=true->((0:Int)<=(x:Int)/\IJ (x:Int)<IR s)/\(WA s x=true->[IL false]=[IL (yw s)])/\(WA s x=false->∃(y:Nat),bB y s/\IR s - y<IR s - x/\(s=s/\Hr .i64 ((x:Int)+1)=(y:Int)/\IN)/\IN))/\(decide ((x:Int)<(↑(IR s):Int))=false->(V1 s->Nat.le (h184q3+IR s) 9223372036854775807)/\(V1 s->Nat.le (IR (h184q5++s)+h184q3) 9223372036854775807)/\IK Tryz.prog G 210 [HW (Gx (Gy (Gu (IU.toArray (D9 (D9 [(32:UInt8),(104:UInt8),(97:UInt8),(114:UInt8),(100:UInt8),(32:UInt8),(115:UInt8),(111:UInt8),(102: UInt8),(116:UInt8),(32:UInt8),(101:UInt8),(97:UInt8),(99:UInt8),(104:UInt8),(32:UInt8),(97:UInt8),(108:UInt8),(108:UInt8),(32:UInt8),(115:UInt8),(111:UInt8),(109:UInt8),(101:UInt8),(32:UInt8),(108:UInt8),(101:UInt8),(97:UInt8),(115:UInt8),(116:UInt8),(32:UInt8),(109:UInt8),(111:UInt8)] [(115:UInt8),(116:UInt8),(32:UInt8),(116:UInt8),(114:UInt8),(117:UInt8),(101:UInt8),(32:UInt8),(102:UInt8),(97:UInt8),(108:UInt8),(115:UInt8),(101:UInt8),(32:UInt8),(97:UInt8),(116:UInt8),(32:UInt8),(105:UInt8),(110:UInt8),(32:UInt8),(116:UInt8),(101:UInt8),(97:UInt8),(99:UInt8),(104:UInt8),(101:UInt8),(115:UInt8),(32:UInt8),(97:UInt8),(116:UInt8),(116:UInt8),(101:UInt8),(110:UInt8),(100:UInt8)]) (D9 [(115:UInt8),(32: UInt8),(97:UInt8),(119:UInt8),(97:UInt8),(121:UInt8),(32:UInt8),(115:UInt8),(104:UInt8),(117:UInt8),(116:UInt8),(32:UInt8),(100:UInt8),(97:UInt8),(121:UInt8),(32:UInt8),(104:UInt8),(111:UInt8),(117:UInt8),(114:UInt8),(32:UInt8),(104:UInt8),(111:UInt8),(117:UInt8),(115:UInt8),(101:UInt8),(32:UInt8),(115:UInt8),(101:UInt8),(97:UInt8),(116:UInt8),(115:UInt8),(32:UInt8),(115:UInt8)] [(105:UInt8),(122:UInt8),(101:UInt8),(32:UInt8),(108:UInt8),(101:UInt8),(115:UInt8),(115:UInt8),(111:UInt8),(110:UInt8),(32:UInt8),(115:UInt8),(108:UInt8),(111:UInt8),(116:UInt8),(32:UInt8),(114:UInt8),(111:UInt8),(111:UInt8),(109:UInt8),(32:UInt8),(112:UInt8),(101:UInt8),(114:UInt8),(115:UInt8),(111:UInt8),(110:UInt8),(32:UInt8),(103:UInt8),(114:UInt8),(111:UInt8),(117:UInt8),(112:UInt8),(32:UInt8)])))))),.str (h184q5++s++h184q5)] λ(rs:IU D)=>∃(b:Bool),rs=[IL b]/\[IL (bif V0 s then !b else false)]=[IL (yw s)]))
 ·kernel_rfl
 delta bB WA ka V1 V0 h184q3 h184q5;refine⟨0,⟨by omega,λi hi=>by omega⟩,by simp,λx hx=>⟨λhlt=>?_,λhge=>?_⟩⟩
 ·simp only[HS]at hlt;have e0:((x:Int)==0)=decide (x=0):=by rw[Ge];simp
  have e:(bif !bif decide ((↑(s.getD x 0).toNat:Int)>=97)then decide ((↑(s.getD x 0).toNat:Int)<=122)else false then bif (x:Int)==0 then true else bif !bif decide ((↑(s.getD x 0).toNat:Int)>=48)then decide ((↑(s.getD x 0).toNat:Int)<=57)else false then(↑(s.getD x 0).toNat:Int) != 95 else false else false) = !oH x (s.getD x 0):=by rw[e0];simp only[oH,d6,WU,zn,zH];generalize (s.getD x 0).toNat=c;rw[Ge];simp;omega
  simp only[HF];rw[e];refine⟨⟨by omega,by omega⟩,λh=>?_,λh=>?_⟩
  ·have:vy s=false:=by
    cases hb:vy s with
    |false=>rfl
    |true =>
     simp only[vy,HC,G3,Fz]at hb;rw[hb.1.1 x (by omega)]at h;cases h
   unfold yw;rw[this];rfl
  ·refine⟨x+1,⟨by omega,λi hi=>?_⟩,by omega,?_⟩
   ·rcases G4 i x with h1|h1
    ·exact hx.2 i h1
    ·have:i=x:=by omega
     subst this;simpa using h
   ·rw[zx (by omega) (by omega)];simp
 ·simp only[HH]at hge;have hall:(Gp s.length).all (λi=>oH i (s.getD i 0))=true:=by rw[G3];intro i hi;exact hx.2 i (by have:=Fz.1 hi;omega)
  have h1:decide ((s.length:Int)>=1)=decide (1<=s.length):=by rw[Ge];simp;omega
  have h2:decide ((s.length:Int)<=64)=decide (s.length<=64):=by rw[Ge];simp;omega
  have hw:vy s=(decide (1<=s.length)&&decide (s.length<=64)):=by rw[vy,hall,EB]
  have e1:1+s.length<=9223372036854775807:=by omega
  have e2:(32::s).length+1<=9223372036854775807:=by simp;omega
  refine⟨λ_=>e1,λ_=>e2,?_⟩;have h210:=h210 (G:=G) resS (32::s++[32]) (by decide) (by simp;omega);refine IK.use (Q:=λrs=>∃b,rs=[IL b]/\[IL (bif bif decide ((s.length:Int)>=1)then decide ((s.length:Int)<=64)else false then !b else false)]=[IL (yw s)]) h210 ⟨_,rfl,?_⟩;rw[zn,zn,h1,h2,yw,hw]
abbrev fm (a:Nat) (b:IU Nm):Prop:=a<=IR b/\F0 (HZ a b) yw=true/\CI (HZ a b)
abbrev kZ (a:IU Nm):Prop:=IT HW a=IT HW a
abbrev bA (a:Nat) (b:IU Nm):Bool:=decide ((a:Int)<(↑(IR (IT HW b)):Int))
abbrev nH (a:IU Nm) (b:Nat):IU UInt8:=Gc (IB (z1 (IT HW a) (IJ (b:Int)) 0) default)
abbrev a7 (a:IU Nm) (b:Nat):D:=HW (nH a b)
abbrev fk (a:Nat) (b:IU Nm):Prop:=(0:Int)<=(a:Int)/\(IT HW b)[IJ (a:Int)]? = some (a7 b a)
abbrev a8 (a:IU Nm):Prop:=[IL false]=[IL (za a)]
abbrev fj (a:Nat) (b:Nat) (c:IU Nm):Prop:=a<=b/\∀(z:Nm),c[b]? = some z->¬z∈HZ a c
abbrev kY (a:Nat) (b:Nat):Prop:=Hr .i64 ((a:Int)+1)=(b:Int)/\IN
theorem J0 (l:IU Nm) (hl:l.length<4611686018427387904) (hs:∀s∈l,s.length<4611686018427387904):IK Tryz.prog G 143 [.sl (l.map HW)] (· = [.bool (za l)]):=by
 refine zu (LL [(2,xH (α:=Nat) Tryz.prog G (λi=>LL [(7,ze (α:=Nat) Tryz.prog G L0 0 (z8 (z8 (z6 Tryz.f143) 0) 0) [0,3] (λx=>x<=i/\∀z,l[i]? = some z->z∉l.take x) (λx=>i - x) (λx=>[(4,.d (.int .i64 x))]) (λH _=>H))]) 0 (z8 (z6 Tryz.f143) 0) [0] (λx=>x<=l.length/\(l.take x).all yw=true/\(l.take x).Nodup) (λx=>l.length - x) (λx=>[(3,.d (.int .i64 x))]) (λH _=>H))]) Tryz.func143 ⟨_,rfl⟩ (zt (zA mixed (λ_=>zt zz))) ?_;apply @z7 _ (∃(x0:Nat),fm x0 l/\((kZ l/\(0:Int)=(x0:Int)/\IN)/\IN)/\∀(x:Nat),fm x l->(bA x l=true->fk x l/\IK Tryz.prog G 184 [a7 l x] λ(rs:IU D)=>∃(b:Bool),rs=[IL b]/\((!b)=true->a8 l)/\((!b)=false->∃(x0:Nat),fj x0 x l/\((kZ l/\(x:Int)=(x:Int)/\(0:Int)=(x0:Int)/\IN)/\IN)/\∀(x_1:Nat),fj x_1 x l->(decide ((x_1:Int)<(x:Int))=true->fk x_1 l/\fk x l/\((nH l x_1==nH l x)=true->a8 l)/\((nH l x_1==nH l x)=false->∃(y:Nat),fj y x l/\x - y<x - x_1/\(kZ l/\(x:Int)=(x:Int)/\kY x_1 y)/\IN))/\(decide ((x_1:Int)<(x:Int))=false->∃(y:Nat),fm y l/\IR l - y<IR l - x/\(kZ l/\kY x y)/\IN)))/\(bA x l=false->[IL true]=[IL (za l)]))
 ·kernel_rfl
 delta fm kZ bA fk a7 nH a8 fj kY;refine⟨0,⟨by omega,by simp,by simp⟩,by simp,λi hi=>⟨λhlt=>?_,λhge=>?_⟩⟩
 ·simp only[H4,HS]at hlt;obtain⟨z,hz,hm⟩:=zw (l:=l) (x:=i) (by omega);have e0:Gc (IB (some (HW z)) default)=z:=rfl;simp only[HF,kc hz,e0];refine⟨⟨by omega,iq hz⟩,(KA z (hs z hm)).use ⟨_,rfl,λh=>?_,λh=>⟨0,⟨by omega,by simp⟩,by simp,λj hj=>⟨λhjl=>?_,λhjg=>?_⟩⟩⟩⟩
  ·have:za l=false:=by unfold za;rw[FH];left;rw[D3];exact⟨z,hm,by simpa using h⟩
   rw[this]
  ·have hjl':j<i:=by simpa using hjl
   obtain⟨y,hy,hym⟩:=zw (l:=l) (x:=j) (by omega);have e1:Gc (IB (some (HW y)) default)=y:=rfl;simp only[kc hy,e1];refine⟨⟨by omega,iq hy⟩,⟨by omega,iq hz⟩,λh2=>?_,λh2=>⟨j+1,⟨by omega,λw hw=>?_⟩,by omega,⟨by trivial,by trivial,?_,trivial⟩,trivial⟩⟩
   ·have hyz:y=z:=by simpa using h2
    subst hyz;have:za l=false:=by unfold za;rw[FH];right;rw[HH];intro hn;exact((u6 hz).1 (hn.sublist (B0 _ _))).2 (GS (i:=j) (by rw[Fa,Hv hjl',hy]))
    rw[this]
   ·rw[hz]at hw;cases hw;rw[GN,hy];simp only[Cf,FK,CB,not_or];refine⟨hj.2 z hz,λe=>?_⟩;subst e;simp at h2
   ·rw[zx (by omega) (by omega)];simp
  ·have hji:j=i:=by have h1:=hj.1;simp at hjg;omega
   subst hji;refine⟨j+1,⟨by omega,?_,(u6 hz).2 ⟨hi.2.2,hj.2 z hz⟩⟩,by omega,⟨by trivial,?_,trivial⟩,trivial⟩
   ·rw[GN,hz,Fb,hi.2.1];simpa using h
   ·rw[zx (by omega) (by omega)];simp
 ·simp only[H4,HH]at hge;obtain⟨_,h2,h3⟩:=hi;rw[Gs (by omega)]at h2 h3;unfold za;rw[h2];simp[h3]
def yB (x:Sl):Int×Int:=(x.day,x.hour)
abbrev az (a:Nat) (b:IU Sl):Prop:=a<=IR b/\F0 (HZ a b) sW=true/\CI (IT yB (HZ a b))
abbrev fh (a:IU Sl):Prop:=IT H9 a=IT H9 a
abbrev ay (a:Nat) (b:IU Sl):Bool:=decide ((a:Int)<(↑(IR (IT H9 b)):Int))
abbrev rC (a:Nat) (b:IU Sl):Prop:=(0:Int)<=(a:Int)/\(IT H9 b)[IJ (a:Int)]? = some (zr [HI,HX .i64,HX .i64] (IT H9 b) (IJ (a:Int)))
abbrev uK (a:IU Sl) (b:Nat):Int:=Hf (IB (z1 (IT H9 a) (IJ (b:Int)) (0+1)) default)
abbrev aw (a:IU Sl) (b:Nat):Bool:=decide (uK a b<0)
abbrev pr (a:IU Sl) (b:Nat):Int:=Hf (IB (z1 (IT H9 a) (IJ (b:Int)) (0+1+1)) default)
abbrev au (a:IU Sl) (b:Nat):Bool:=bif bif aw a b then true else decide (uK a b>6)then true else decide (pr a b<0)
abbrev V2 (a:IU Sl):Prop:=[IL false]=[IL (uM a)]
abbrev aq (a:Nat) (b:Nat) (c:IU Sl):Prop:=a<=b/\∀(z:Sl),c[b]? = some z->¬yB z∈IT yB (HZ a c)
theorem J1 (l:IU Sl) (hl:l.length<4611686018427387904):IK Tryz.prog G 145 [.sl (l.map H9)] (· = [.bool (uM l)]):=by
 refine zu (LL [(2,xH (α:=Nat) Tryz.prog G (λi=>LL [(7,ze (α:=Nat) Tryz.prog G L0 0 (z8 (z8 (z6 Tryz.f145) 0) 0) [0,3] (λx=>x<=i/\∀z,l[i]? = some z->yB z∉(l.take x).map yB) (λx=>i - x) (λx=>[(4,.d (.int .i64 x))]) (λH _=>H))]) 0 (z8 (z6 Tryz.f145) 0) [0] (λx=>x<=l.length/\(l.take x).all sW=true/\((l.take x).map yB).Nodup) (λx=>l.length - x) (λx=>[(3,.d (.int .i64 x))]) (λH _=>H))]) Tryz.func145 ⟨_,rfl⟩ (zt (zA mixed (λ_=>zt zz))) ?_;apply @z7 _ (∃(x0:Nat),az x0 l/\((fh l/\(0:Int)=(x0:Int)/\IN)/\IN)/\∀(x:Nat),az x l->(ay x l=true->rC x l/\(aw l x=false->rC x l)/\((bif aw l x then true else decide (uK l x>6))=false->rC x l)/\(au l x=false->rC x l)/\((bif au l x then true else decide (pr l x>11))=true->V2 l)/\((bif au l x then true else decide (pr l x>11))=false->∃(x0:Nat),aq x0 x l/\((fh l/\(x:Int)=(x:Int)/\(0:Int)=(x0:Int)/\IN)/\IN)/\∀(x_1:Nat),aq x_1 x l->(decide ((x_1:Int)<(x:Int))=true->rC x_1 l/\rC x l/\((uK l x_1==uK l x)=true->rC x_1 l)/\((uK l x_1==uK l x)=true->rC x l)/\((bif uK l x_1==uK l x then pr l x_1==pr l x else false)=true->V2 l)/\((bif uK l x_1==uK l x then pr l x_1==pr l x else false)=false->∃(y:Nat),aq y x l/\x - y<x - x_1/\(fh l/\(x:Int)=(x:Int)/\kY x_1 y)/\IN))/\(decide ((x_1:Int)<(x:Int))=false->∃(y:Nat),az y l/\IR l - y<IR l - x/\(fh l/\kY x y)/\IN)))/\(ay x l=false->[IL (decide ((↑(IR (IT H9 l)):Int)>0))]=[IL (uM l)]))
 ·kernel_rfl
 delta az fh ay rC aw uK au pr V2 aq kY fm kZ bA fk a7 nH a8 fj;refine⟨0,⟨by omega,by simp,by simp⟩,by simp,λi hi=>⟨λhlt=>?_,λhge=>?_⟩⟩
 ·simp only[H4,HS]at hlt;obtain⟨z,hz,hm⟩:=zw (l:=l) (x:=i) (by omega);have ez (n:Int):Hf (IB (some (IP .i64 n)) default)=n:=rfl;simp only[HF,vj hz,vi hz,uR hz,ez];have hg:0<=(i:Int)/\(IT H9 l)[i]? = some z.d:=⟨by omega,uQ hz⟩;have hc:(bif bif bif decide (z.day<0)then true else decide (z.day>6)then true else decide (z.hour<0)then true else decide (z.hour>11)) = !sW z:=by simp only[zH,sW];rw[Ge];simp
  rw[hc];refine⟨hg,λ_=>hg,λ_=>hg,λ_=>hg,λh=>?_,λh=>⟨0,⟨by omega,by simp⟩,by simp,λj hj=>⟨λhjl=>?_,λhjg=>?_⟩⟩⟩
  ·have:uM l=false:=by unfold uM;rw[FH,FH];left;left;rw[D3];exact⟨z,hm,by simpa using h⟩
   rw[this]
  ·have hjl':j<i:=by simpa using hjl
   obtain⟨y,hy,hym⟩:=zw (l:=l) (x:=j) (by omega);have hgy:0<=(j:Int)/\(IT H9 l)[j]? = some y.d:=⟨by omega,uQ hy⟩;simp only[vj hy,vi hy,uR hy,ez];have hk:(bif y.day==z.day then y.hour==z.hour else false)=decide (yB y=yB z):=by rw[zn,Ge];simp[yB]
   rw[hk];refine⟨hgy,hg,λ_=>hgy,λ_=>hg,λh2=>?_,λh2=>⟨j+1,⟨by omega,λw hw=>?_⟩,by omega,⟨by trivial,by trivial,?_,trivial⟩,trivial⟩⟩
   ·have hyz:yB y=yB z:=G0 h2;have:uM l=false:=by
     unfold uM;rw[FH,FH];left;right;rw[HH];intro hn;have hz':(l.map yB)[i]? = some (yB z):=by rw[G5,hz];rfl
     have hy':(l.map yB)[j]? = some (yB y):=by rw[G5,hy];rfl
     rw[←hyz]at hz';exact((u6 hz').1 (Aj (B0 _ _) hn)).2 (GS (i:=j) (by rw[Fa,Hv hjl',hy']))
    rw[this]
   ·rw[hz]at hw;cases hw;rw[GN,hy];simp only[Cf,GI,FK,Gb,FQ,CB,not_or];exact⟨hj.2 z hz,λe=>by rw[e]at h2;simp at h2⟩
   ·rw[zx (by omega) (by omega)];simp
  ·have hji:j=i:=by have h1:=hj.1;simp at hjg;omega
   subst hji;have hz':(l.map yB)[j]? = some (yB z):=by rw[G5,hz];rfl
   refine⟨j+1,⟨by omega,?_,?_⟩,by omega,⟨by trivial,?_,trivial⟩,trivial⟩
   ·rw[GN,hz,Fb,hi.2.1];simpa using h
   ·have:=(u6 hz').2;rw[←BM,←BM]at this;exact this ⟨hi.2.2,hj.2 z hz⟩
   ·rw[zx (by omega) (by omega)];simp
 ·simp only[H4,HH]at hge;obtain⟨_,h2,h3⟩:=hi;rw[Gs (by omega)]at h2 h3;have hn:decide ((IT (λ(x:Sl)=>(x.day,x.hour)) l).Nodup)=true:=decide_eq_true h3;unfold uM;rw[h2,hn];cases l<;>simp
end
structure Sc.Fits (s:Sc):Prop where
 slots:s.slots.length<1099511627776
 rooms:s.rooms.length<1099511627776
 people:s.people.length<1099511627776
 groups:s.groups.length<1099511627776
 lessons:s.lessons.length<1099511627776
 shut:∀x∈s.rooms,x.shut.length<1099511627776
 away:∀x∈s.people,x.away.length<1099511627776
 who:∀x∈s.lessons,x.who.length<1099511627776
 grs:∀x∈s.lessons,x.groups.length<1099511627776
 nsl:∀x∈s.slots,x.name.length<1099511627776
 nrm:∀x∈s.rooms,x.name.length<1099511627776
 npe:∀x∈s.people,x.name.length<1099511627776
 ngr:∀x∈s.groups,x.name.length<1099511627776
 nle:∀x∈s.lessons,x.name.length<1099511627776
def dayNs:IU Nm:=[[100,97,121,48],[100,97,121,49],[100,97,121,50],[100,97,121,51],[100,97,121,52],[100,97,121,53],[100,97,121,54]]
def houseNs:IU Nm:=[[104,111,117,115,101,48],[104,111,117,115,101,49],[104,111,117,115,101,50],[104,111,117,115,101,51],[104,111,117,115,101,52],[104,111,117,115,101,53],[104,111,117,115,101,54],[104,111,117,115,101,55]]
def zf (s:Sc) (k:Int):IU Nm :=if k=1 then s.lessons.map (·.name)else if k=2 then s.slots.map (·.name)else if k=3 then s.rooms.map (·.name)else if k=4 then s.people.map (·.name)else if k=5 then s.groups.map (·.name)else if k=6 then dayNs else if k=7 then houseNs else []
theorem fg (l:IU D) (n:Nm) (hl:yH l 1=true) (h:l.length<1099511627777):FA l [HW n] 1 16:=by unfold yH at hl;refine⟨by rw[Fb,hl];rfl,?_⟩;simp;omega
theorem zj (s:Sc):s.d = .agg [.sl (s.slots.map H9),.sl (s.rooms.map H8),.sl (s.people.map Hy),.sl (s.groups.map Hx),.sl (s.lessons.map H7)]:=rfl
theorem lw {α:Type}(f:α->Nm) (l:IU α):yH (l.map λy=>HW (f y)) 1=true:=by unfold yH;rw[G3];intro d hd;obtain⟨t,_,rfl⟩:=Gd.1 hd;rfl
section
variable {G:Nat->IQ (IU D)}
def h82q13:Prop:=IA 0 0=IA 0 0
def wX (a:Nat) (b:Sc):IU D:=IT (λ(y:Le)=>HW (Le.name y)) (HZ a (Hn b))
def ve (a:Nat):Prop:=IR ([]:IU D)<=a
def su (a:Nat) (b:Int):Prop:=(0:Int)=(a:Int)/\b=b/\IN
def wo (a:Sc):IU D:=IT H9 (Hk a)
def ya (a:Sc):IU D:=IT H8 (Hg a)
def yU (a:Sc):IU D:=IT Hy (Hi a)
def xi (a:Sc):IU D:=IT Hx (Hh a)
def yJ (a:Sc):IU D:=IT H7 (Hn a)
def wH (a:Sc):Prop:=wo a=wo a/\ya a=ya a/\yU a=yU a/\xi a=xi a/\yJ a=yJ a/\IN
def wP (a:Sc):Prop:=wH a/\IN
def vd (a:Nat) (b:Nat) (c:Int):Prop:=Hr .i64 ((a:Int)+1)=(b:Int)/\c=c/\IN
def wn (a:Sc) (b:Int):IU D:=[II (IT HW (zf a b))]
def uD (a:Nat) (b:Sc):IU D:=IT (λ(y:Sl)=>HW (Sl.name y)) (HZ a (Hk b))
def uC (a:Nat) (b:Sc):IU D:=IT (λ(y:Rm)=>HW (Rm.name y)) (HZ a (Hg b))
def uB (a:Nat) (b:Sc):IU D:=IT (λ(y:Pe)=>HW (Pe.name y)) (HZ a (Hi b))
def uA (a:Nat) (b:Sc):IU D:=IT (λ(y:Gr)=>HW (Gr.name y)) (HZ a (Hh b))
theorem h82 (s:Sc) (k:Int) (hs:s.Fits):IK Tryz.prog G 82 [s.d,.int .i64 k] (· = [.sl ((zf s k).map HW)]):=by
 rw[zj];refine zu (LL [(5,ze (α:=Nat) Tryz.prog G L0 0 (z8 (z6 Tryz.f82) 0) [2,11] (λx=>x<=s.lessons.length) (λx=>s.lessons.length - x) (λx=>[(5,.vec 1 ((s.lessons.take x).map λy=>HW y.name)),(6,.d (.int .i64 x))]) (λH x=>[H.getD 0 .dead,.vec x 1])),(10,ze (α:=Nat) Tryz.prog G L0 0 (z8 (z6 Tryz.f82) 1) [2,11] (λx=>x<=s.slots.length) (λx=>s.slots.length - x) (λx=>[(5,.vec 1 ((s.slots.take x).map λy=>HW y.name)),(7,.d (.int .i64 x))]) (λH x=>[H.getD 0 .dead,.vec x 1])),(15,ze (α:=Nat) Tryz.prog G L0 0 (z8 (z6 Tryz.f82) 2) [2,11] (λx=>x<=s.rooms.length) (λx=>s.rooms.length - x) (λx=>[(5,.vec 1 ((s.rooms.take x).map λy=>HW y.name)),(8,.d (.int .i64 x))]) (λH x=>[H.getD 0 .dead,.vec x 1])),(20,ze (α:=Nat) Tryz.prog G L0 0 (z8 (z6 Tryz.f82) 3) [2,11] (λx=>x<=s.people.length) (λx=>s.people.length - x) (λx=>[(5,.vec 1 ((s.people.take x).map λy=>HW y.name)),(9,.d (.int .i64 x))]) (λH x=>[H.getD 0 .dead,.vec x 1])),(25,ze (α:=Nat) Tryz.prog G L0 0 (z8 (z6 Tryz.f82) 4) [2,11] (λx=>x<=s.groups.length) (λx=>s.groups.length - x) (λx=>[(5,.vec 1 ((s.groups.take x).map λy=>HW y.name)),(10,.d (.int .i64 x))]) (λH x=>[H.getD 0 .dead,.vec x 1]))]) Tryz.func82 ⟨_,rfl⟩ (zp.five (b1:=z8 (z6 Tryz.f82) 0) (b2:=z8 (z6 Tryz.f82) 1) (b3:=z8 (z6 Tryz.f82) 2) (b4:=z8 (z6 Tryz.f82) 3) (b5:=z8 (z6 Tryz.f82) 4) (by kernel_rfl) (by kernel_rfl) (by kernel_rfl) (by kernel_rfl) (by kernel_rfl) (by kernel_rfl) zz zz zz zz zz) ?_;apply @z7 _ (((k==1)=true->∃(x0:Nat),x0<=IR (Hn s)/\((h82q13/\([]=wX x0 s/\ve x0)/\su x0 k)/\wP s)/\∀(x:Nat),x<=IR (Hn s)->(decide ((x:Int)<(↑(IR (yJ s)):Int))=true->((0:Int)<=(x:Int)/\(yJ s)[IJ (x:Int)]? = some (zr [HI,HK,HK] (yJ s) (IJ (x:Int))))/\(x=IR (wX x s)/\1=1/\FA (wX x s) [HW (Gc (IB (z1 (yJ s) (IJ (x:Int)) 0) default))] (nat_lit 1) (nat_lit 16))/\∃(y:Nat),y<=IR (Hn s)/\IR (Hn s) - y<IR (Hn s) - x/\(h82q13/\wX x s++G6 [(λ(x_1:Sh×Nat)=>match x_1 with|(sh,j)=>GP sh (IB (z1 (IT H7 (Hn s)) (IJ (x:Int)) j) default)) (HI,0)]=wX y s/\vd x y k)/\wH s/\IR (wX x s)+IR (G6 [(λ(x_1:Sh×Nat)=>match x_1 with|(sh,j)=>GP sh (IB (z1 (IT H7 (Hn s)) (IJ (x:Int)) j) default)) (HI,0)])=y/\IN)/\(decide ((x:Int)<(↑(IR (yJ s)):Int))=false->[II (wX x s)]=wn s k))/\((k==1)=false->((k==2)=true->∃(x0:Nat),x0<=IR (Hk s)/\((h82q13/\([]=uD x0 s/\ve x0)/\su x0 k)/\wP s)/\∀(x:Nat),x<=IR (Hk s)->(decide ((x:Int)<(↑(IR (wo s)):Int))=true->((0:Int)<=(x:Int)/\(wo s)[IJ (x:Int)]? = some (zr [HI,HX .i64,HX .i64] (wo s) (IJ (x:Int))))/\(x=IR (uD x s)/\1=1/\FA (uD x s) [HW (Gc (IB (z1 (wo s) (IJ (x:Int)) 0) default))] (nat_lit 1) (nat_lit 16))/\∃(y:Nat),y<=IR (Hk s)/\IR (Hk s) - y<IR (Hk s) - x/\(h82q13/\uD x s++G6 [(λ(x_1:Sh×Nat)=>match x_1 with|(sh,j)=>GP sh (IB (z1 (IT H9 (Hk s)) (IJ (x:Int)) j) default)) (HI,0)]=uD y s/\vd x y k)/\wH s/\IR (uD x s)+IR (G6 [(λ(x_1:Sh×Nat)=>match x_1 with|(sh,j)=>GP sh (IB (z1 (IT H9 (Hk s)) (IJ (x:Int)) j) default)) (HI,0)])=y/\IN)/\(decide ((x:Int)<(↑(IR (wo s)):Int))=false->[II (uD x s)]=wn s k))/\((k==2)=false->((k==3)=true->∃(x0:Nat),x0<=IR (Hg s)/\((h82q13/\([]=uC x0 s/\ve x0)/\su x0 k)/\wP s)/\∀(x:Nat),x<=IR (Hg s)->(decide ((x:Int)<(↑(IR (ya s)):Int))=true->((0:Int)<=(x:Int)/\(ya s)[IJ (x:Int)]? = some (zr [HI,HX .i64,HX .i64,HK] (ya s) (IJ (x:Int))))/\(x=IR (uC x s)/\1=1/\FA (uC x s) [HW (Gc (IB (z1 (ya s) (IJ (x:Int)) 0) default))] (nat_lit 1) (nat_lit 16))/\∃(y:Nat),y<=IR (Hg s)/\IR (Hg s) - y<IR (Hg s) - x/\(h82q13/\uC x s++G6 [(λ(x_1:Sh×Nat)=>match x_1 with|(sh,j)=>GP sh (IB (z1 (IT H8 (Hg s)) (IJ (x:Int)) j) default)) (HI,0)]=uC y s/\vd x y k)/\wH s/\IR (uC x s)+IR (G6 [(λ(x_1:Sh×Nat)=>match x_1 with|(sh,j)=>GP sh (IB (z1 (IT H8 (Hg s)) (IJ (x:Int)) j) default)) (HI,0)])=y/\IN)/\(decide ((x:Int)<(↑(IR (ya s)):Int))=false->[II (uC x s)]=wn s k))/\((k==3)=false->((k==4)=true->∃(x0:Nat),x0<=IR (Hi s)/\((h82q13/\([]=uB x0 s/\ve x0)/\su x0 k)/\wP s)/\∀(x:Nat),x<=IR (Hi s)->(decide ((x:Int)<(↑(IR (yU s)):Int))=true->((0:Int)<=(x:Int)/\(yU s)[IJ (x:Int)]? = some (zr [HI,HK] (yU s) (IJ (x:Int))))/\(x=IR (uB x s)/\1=1/\FA (uB x s) [HW (Gc (IB (z1 (yU s) (IJ (x:Int)) 0) default))] (nat_lit 1) (nat_lit 16))/\∃(y:Nat),y<=IR (Hi s)/\IR (Hi s) - y<IR (Hi s) - x/\(h82q13/\uB x s++G6 [(λ(x_1:Sh×Nat)=>match x_1 with|(sh,j)=>GP sh (IB (z1 (IT Hy (Hi s)) (IJ (x:Int)) j) default)) (HI,0)]=uB y s/\vd x y k)/\wH s/\IR (uB x s)+IR (G6 [(λ(x_1:Sh×Nat)=>match x_1 with|(sh,j)=>GP sh (IB (z1 (IT Hy (Hi s)) (IJ (x:Int)) j) default)) (HI,0)])=y/\IN)/\(decide ((x:Int)<(↑(IR (yU s)):Int))=false->[II (uB x s)]=wn s k))/\((k==4)=false->((k==5)=true->∃(x0:Nat),x0<=IR (Hh s)/\((h82q13/\([]=uA x0 s/\ve x0)/\su x0 k)/\wP s)/\∀(x:Nat),x<=IR (Hh s)->(decide ((x:Int)<(↑(IR (xi s)):Int))=true->((0:Int)<=(x:Int)/\(xi s)[IJ (x:Int)]? = some (zr [HI,HX .i64] (xi s) (IJ (x:Int))))/\(x=IR (uA x s)/\1=1/\FA (uA x s) [HW (Gc (IB (z1 (xi s) (IJ (x:Int)) 0) default))] (nat_lit 1) (nat_lit 16))/\∃(y:Nat),y<=IR (Hh s)/\IR (Hh s) - y<IR (Hh s) - x/\(h82q13/\uA x s++G6 [(λ(x_1:Sh×Nat)=>match x_1 with|(sh,j)=>GP sh (IB (z1 (IT Hx (Hh s)) (IJ (x:Int)) j) default)) (HI,0)]=uA y s/\vd x y k)/\wH s/\IR (uA x s)+IR (G6 [(λ(x_1:Sh×Nat)=>match x_1 with|(sh,j)=>GP sh (IB (z1 (IT Hx (Hh s)) (IJ (x:Int)) j) default)) (HI,0)])=y/\IN)/\(decide ((x:Int)<(↑(IR (xi s)):Int))=false->[II (uA x s)]=wn s k))/\((k==5)=false->((k==6)=true->[II [HW (Gx (Gy (Gu #[(100:UInt8),(97:UInt8),(121:UInt8),(48:UInt8)]))),.str (Gx (Gy (Gu #[(100:UInt8),(97:UInt8),(121:UInt8),(49:UInt8)]))),.str (Gx (Gy (Gu #[(100:UInt8),(97:UInt8),(121:UInt8),(50:UInt8)]))),.str (Gx (Gy (Gu #[(100:UInt8),(97:UInt8),(121:UInt8),(51:UInt8)]))),.str (Gx (Gy (Gu #[(100:UInt8),(97:UInt8),(121:UInt8),(52:UInt8)]))),.str (Gx (Gy (Gu #[(100:UInt8),(97:UInt8),(121:UInt8),(53:UInt8)]))),.str (Gx (Gy (Gu #[(100:UInt8),(97:UInt8),(121:UInt8),(54:UInt8)])))]]=wn s k)/\((k==6)=false->((k==7)=true->[II [HW (Gx (Gy (Gu #[(104:UInt8),(111:UInt8),(117:UInt8),(115:UInt8),(101:UInt8),(48:UInt8)]))),.str (Gx (Gy (Gu #[(104:UInt8),(111:UInt8),(117:UInt8),(115:UInt8),(101:UInt8),(49:UInt8)]))),.str (Gx (Gy (Gu #[(104:UInt8),(111:UInt8),(117:UInt8),(115:UInt8),(101:UInt8),(50:UInt8)]))),.str (Gx (Gy (Gu #[(104:UInt8),(111:UInt8),(117:UInt8),(115:UInt8),(101:UInt8),(51:UInt8)]))),.str (Gx (Gy (Gu #[(104:UInt8),(111:UInt8),(117:UInt8),(115:UInt8),(101:UInt8),(52:UInt8)]))),.str (Gx (Gy (Gu #[(104:UInt8),(111:UInt8),(117:UInt8),(115:UInt8),(101:UInt8),(53:UInt8)]))),.str (Gx (Gy (Gu #[(104:UInt8),(111:UInt8),(117:UInt8),(115:UInt8),(101:UInt8),(54:UInt8)]))),.str (Gx (Gy (Gu #[(104:UInt8),(111:UInt8),(117:UInt8),(115:UInt8),(101:UInt8),(55:UInt8)])))]]=wn s k)/\((k==7)=false->[II []]=wn s k))))))))
 ·kernel_rfl
 delta h82q13 wX ve su wP wH wo ya yU xi yJ vd wn uD uC uB uA;refine⟨λhk1=>?_,λhk1=>?_⟩<;>simp only[beq_iff_eq,beq_eq_false_iff_ne,ne_eq]at hk1
 ·refine⟨0,by omega,⟨⟨rfl,⟨rfl,by simp⟩,rfl,rfl,trivial⟩,⟨rfl,rfl,rfl,rfl,rfl,trivial⟩,trivial⟩,λx hx=>⟨λhlt=>?_,λhge=>?_⟩⟩
  ·simp only[H4,HS]at hlt;obtain⟨z,hz,hm⟩:=zw (l:=s.lessons) (x:=x) (by omega);have hsX:=hs.lessons;have hl:(IT (λy=>HW y.name) (HZ x s.lessons)).length=x:=by simp;omega
   rw[HF,uO hz];refine⟨⟨by omega,uN hz⟩,⟨hl.symm,rfl,?_⟩,x+1,by omega,by omega,⟨rfl,?_,?_,rfl,trivial⟩,⟨rfl,rfl,rfl,rfl,rfl,trivial⟩,?_,trivial⟩
   ·rw[fw hz];exact fg _ _ (lw _ _) (by rw[hl];omega)
   ·dsimp only;rw[fw hz,GN,hz,GI];rfl
   ·rw[zx (by omega) (by omega)];simp
   ·rw[hl];rfl
  ·simp only[H4,HH]at hge;rw[Gs (by omega),zf,Hv (by omega),CT];rfl
 refine⟨λhk2=>?_,λhk2=>?_⟩<;>simp only[beq_iff_eq,beq_eq_false_iff_ne,ne_eq]at hk2
 ·refine⟨0,by omega,⟨⟨rfl,⟨rfl,by simp⟩,rfl,rfl,trivial⟩,⟨rfl,rfl,rfl,rfl,rfl,trivial⟩,trivial⟩,λx hx=>⟨λhlt=>?_,λhge=>?_⟩⟩
  ·simp only[H4,HS]at hlt;obtain⟨z,hz,hm⟩:=zw (l:=s.slots) (x:=x) (by omega);have hsX:=hs.slots;have hl:(IT (λy=>HW y.name) (HZ x s.slots)).length=x:=by simp;omega
   rw[HF,uR hz];refine⟨⟨by omega,uQ hz⟩,⟨hl.symm,rfl,?_⟩,x+1,by omega,by omega,⟨rfl,?_,?_,rfl,trivial⟩,⟨rfl,rfl,rfl,rfl,rfl,trivial⟩,?_,trivial⟩
   ·rw[f5 hz];exact fg _ _ (lw _ _) (by rw[hl];omega)
   ·dsimp only;rw[f5 hz,GN,hz,GI];rfl
   ·rw[zx (by omega) (by omega)];simp
   ·rw[hl];rfl
  ·simp only[H4,HH]at hge;rw[Gs (by omega),zf,IE (by omega),Hv (by omega),CT];rfl
 refine⟨λhk3=>?_,λhk3=>?_⟩<;>simp only[beq_iff_eq,beq_eq_false_iff_ne,ne_eq]at hk3
 ·refine⟨0,by omega,⟨⟨rfl,⟨rfl,by simp⟩,rfl,rfl,trivial⟩,⟨rfl,rfl,rfl,rfl,rfl,trivial⟩,trivial⟩,λx hx=>⟨λhlt=>?_,λhge=>?_⟩⟩
  ·simp only[H4,HS]at hlt;obtain⟨z,hz,hm⟩:=zw (l:=s.rooms) (x:=x) (by omega);have hsX:=hs.rooms;have hl:(IT (λy=>HW y.name) (HZ x s.rooms)).length=x:=by simp;omega
   rw[HF,uP hz];refine⟨⟨by omega,tY hz⟩,⟨hl.symm,rfl,?_⟩,x+1,by omega,by omega,⟨rfl,?_,?_,rfl,trivial⟩,⟨rfl,rfl,rfl,rfl,rfl,trivial⟩,?_,trivial⟩
   ·rw[f6 hz];exact fg _ _ (lw _ _) (by rw[hl];omega)
   ·dsimp only;rw[f6 hz,GN,hz,GI];rfl
   ·rw[zx (by omega) (by omega)];simp
   ·rw[hl];rfl
  ·simp only[H4,HH]at hge;rw[Gs (by omega),zf,IE (by omega),IE (by omega),Hv (by omega),CT];rfl
 refine⟨λhk4=>?_,λhk4=>?_⟩<;>simp only[beq_iff_eq,beq_eq_false_iff_ne,ne_eq]at hk4
 ·refine⟨0,by omega,⟨⟨rfl,⟨rfl,by simp⟩,rfl,rfl,trivial⟩,⟨rfl,rfl,rfl,rfl,rfl,trivial⟩,trivial⟩,λx hx=>⟨λhlt=>?_,λhge=>?_⟩⟩
  ·simp only[H4,HS]at hlt;obtain⟨z,hz,hm⟩:=zw (l:=s.people) (x:=x) (by omega);have hsX:=hs.people;have hl:(IT (λy=>HW y.name) (HZ x s.people)).length=x:=by simp;omega
   rw[HF,pu hz];refine⟨⟨by omega,nN hz⟩,⟨hl.symm,rfl,?_⟩,x+1,by omega,by omega,⟨rfl,?_,?_,rfl,trivial⟩,⟨rfl,rfl,rfl,rfl,rfl,trivial⟩,?_,trivial⟩
   ·rw[f8 hz];exact fg _ _ (lw _ _) (by rw[hl];omega)
   ·dsimp only;rw[f8 hz,GN,hz,GI];rfl
   ·rw[zx (by omega) (by omega)];simp
   ·rw[hl];rfl
  ·simp only[H4,HH]at hge;rw[Gs (by omega),zf,IE (by omega),IE (by omega),IE (by omega),Hv (by omega),CT];rfl
 refine⟨λhk5=>?_,λhk5=>?_⟩<;>simp only[beq_iff_eq,beq_eq_false_iff_ne,ne_eq]at hk5
 ·refine⟨0,by omega,⟨⟨rfl,⟨rfl,by simp⟩,rfl,rfl,trivial⟩,⟨rfl,rfl,rfl,rfl,rfl,trivial⟩,trivial⟩,λx hx=>⟨λhlt=>?_,λhge=>?_⟩⟩
  ·simp only[H4,HS]at hlt;obtain⟨z,hz,hm⟩:=zw (l:=s.groups) (x:=x) (by omega);have hsX:=hs.groups;have hl:(IT (λy=>HW y.name) (HZ x s.groups)).length=x:=by simp;omega
   rw[HF,nM hz];refine⟨⟨by omega,ke hz⟩,⟨hl.symm,rfl,?_⟩,x+1,by omega,by omega,⟨rfl,?_,?_,rfl,trivial⟩,⟨rfl,rfl,rfl,rfl,rfl,trivial⟩,?_,trivial⟩
   ·rw[fx hz];exact fg _ _ (lw _ _) (by rw[hl];omega)
   ·dsimp only;rw[fx hz,GN,hz,GI];rfl
   ·rw[zx (by omega) (by omega)];simp
   ·rw[hl];rfl
  ·simp only[H4,HH]at hge;rw[Gs (by omega),zf,IE (by omega),IE (by omega),IE (by omega),IE (by omega),Hv (by omega),CT];rfl
 refine⟨λhk6=>?_,λhk6=>?_⟩<;>simp only[beq_iff_eq,beq_eq_false_iff_ne,ne_eq]at hk6
 ·rw[zf,IE (by omega),IE (by omega),IE (by omega),IE (by omega),IE (by omega),Hv (by omega)];rfl
 refine⟨λhk7=>?_,λhk7=>?_⟩<;>simp only[beq_iff_eq,beq_eq_false_iff_ne,ne_eq]at hk7
 ·rw[zf,IE (by omega),IE (by omega),IE (by omega),IE (by omega),IE (by omega),IE (by omega),Hv (by omega)];rfl
 ·rw[zf,IE (by omega),IE (by omega),IE (by omega),IE (by omega),IE (by omega),IE (by omega),IE (by omega)];rfl
theorem h81 (s:Sc) (k:Int) (hs:s.Fits):IK Tryz.prog G 81 [s.d,.int .i64 k] (· = [.int .i64 (zf s k).length]):=by
 have h:=h82 (G:=G) s k hs;rw[zj]at *;refine zq Tryz.func81 ⟨_,rfl⟩ ?_;apply @z7 _ (IK Tryz.prog G 82 [Hd [.sl (wo s),.sl (ya s),.sl (yU s),.sl (xi s),.sl (yJ s)],.int .i64 k] λ(rs:IU D)=>∃(l:IU D),rs=[II l]/\[IP .i64 (↑(IR l):Int)]=[IP .i64 (↑(IR (zf s k)):Int)])
 ·kernel_rfl
 delta wo h82q13 wX ve su wP wH ya yU xi yJ vd wn uD uC uB uA;refine h.use ⟨_,rfl,?_⟩;rw[H4]
def yv {α:Type}(l:IU α) (f:α->IU Int) (at_ n:Int):Bool:=decide (0<=at_)&&decide (at_<l.length)&&((l[at_.toNat]?).map f|>.getD []).contains n
def kX (a:Int) (b:Sc):Bool:=bif decide (a>=0)then decide (a<(↑(IR (yJ b)):Int))else false
theorem h180 (s:Sc) (a b:Int) (hs:s.Fits):IK Tryz.prog G 180 [s.d,.int .i64 a,.int .i64 b] (· = [.bool (yv s.lessons (·.who) b a)]):=by
 rw[zj];refine zq Tryz.func180 ⟨_,rfl⟩ ?_;apply @z7 _ ((kX b s=true->0<=b/\(yJ s)[IJ b]? = some (zr [HI,HK,HK] (yJ s) (IJ b)))/\IK Tryz.prog G 209 [II (Gl (IB (z1 (yJ s) (IJ b) (0+1)) default)),.int .i64 a] λ(rs:IU D)=>∃(b_1:Bool),rs=[IL b_1]/\[IL (bif kX b s then b_1 else false)]=[IL (yv (Hn s) (λ(x:Le)=>Le.who x) b a)])
 ·kernel_rfl
 delta kX yJ h82q13 wX ve su wP wH wo ya yU xi vd wn uD uC uB uA;cases hz:s.lessons[b.toNat]? with
 |some z =>
  have hm:=GS hz;rw[uO hz,fu hz];have e0:Gl (IB (some (II (z.who.map intD))) default)=z.who.map intD:=rfl;rw[e0];refine⟨λh=>⟨by rw[zn,HC]at h;exact G0 h.1,uN hz⟩,(X6 z.who a (by have:=hs.who z hm;omega)).use ⟨_,rfl,?_⟩⟩;unfold yv;rw[hz,zn,zn,H4];rfl
 |none =>
  have hge:s.lessons.length<=b.toNat:=by
   rcases G4 b.toNat s.lessons.length with h|h
   ·rw[Ff h]at hz;cases hz
   ·exact h
  have hc:(bif decide (b>=0)then decide (b<((IT H7 s.lessons).length:Int))else false)=false:=by
   rw[H4,zn,FH];by_cases h:b>=0
   ·right;simp;omega
   ·left;simpa using h
  have e0:Gl (IB (z1 (IT H7 s.lessons) b.toNat (0+1)) default)=([]:IU Int).map intD:=by unfold z1;rw[G5,hz];rfl
  rw[hc,e0];refine⟨λh=>(by cases h),(X6 [] a (by decide)).use ⟨_,rfl,?_⟩⟩;unfold yv;rw[H4]at hc;rw[zn]at hc;have hc':(decide (0<=b)&&decide (b<(s.lessons.length:Int)))=false:=hc;rw[hc'];rfl
theorem h181 (s:Sc) (a b:Int) (hs:s.Fits):IK Tryz.prog G 181 [s.d,.int .i64 a,.int .i64 b] (· = [.bool (yv s.lessons (·.groups) b a)]):=by
 rw[zj];refine zq Tryz.func181 ⟨_,rfl⟩ ?_;apply @z7 _ ((kX b s=true->0<=b/\(yJ s)[IJ b]? = some (zr [HI,HK,HK] (yJ s) (IJ b)))/\IK Tryz.prog G 209 [II (Gl (IB (z1 (yJ s) (IJ b) (0+1+1)) default)),.int .i64 a] λ(rs:IU D)=>∃(b_1:Bool),rs=[IL b_1]/\[IL (bif kX b s then b_1 else false)]=[IL (yv (Hn s) (λ(x:Le)=>Le.groups x) b a)])
 ·kernel_rfl
 delta kX yJ h82q13 wX ve su wP wH wo ya yU xi vd wn uD uC uB uA;cases hz:s.lessons[b.toNat]? with
 |some z =>
  have hm:=GS hz;rw[uO hz,pt hz];have e0:Gl (IB (some (II (z.groups.map intD))) default)=z.groups.map intD:=rfl;rw[e0];refine⟨λh=>⟨by rw[zn,HC]at h;exact G0 h.1,uN hz⟩,(X6 z.groups a (by have:=hs.grs z hm;omega)).use ⟨_,rfl,?_⟩⟩;unfold yv;rw[hz,zn,zn,H4];rfl
 |none =>
  have hge:s.lessons.length<=b.toNat:=by
   rcases G4 b.toNat s.lessons.length with h|h
   ·rw[Ff h]at hz;cases hz
   ·exact h
  have hc:(bif decide (b>=0)then decide (b<((IT H7 s.lessons).length:Int))else false)=false:=by
   rw[H4,zn,FH];by_cases h:b>=0
   ·right;simp;omega
   ·left;simpa using h
  have e0:Gl (IB (z1 (IT H7 s.lessons) b.toNat (0+1+1)) default)=([]:IU Int).map intD:=by unfold z1;rw[G5,hz];rfl
  rw[hc,e0];refine⟨λh=>(by cases h),(X6 [] a (by decide)).use ⟨_,rfl,?_⟩⟩;unfold yv;rw[H4]at hc;rw[zn]at hc;have hc':(decide (0<=b)&&decide (b<(s.lessons.length:Int)))=false:=hc;rw[hc'];rfl
def V3 (a:Int) (b:Sc):Bool:=bif decide (a>=0)then decide (a<(↑(IR (yU b)):Int))else false
theorem h182 (s:Sc) (a b:Int) (hs:s.Fits):IK Tryz.prog G 182 [s.d,.int .i64 a,.int .i64 b] (· = [.bool (yv s.people (·.away) a b)]):=by
 rw[zj];refine zq Tryz.func182 ⟨_,rfl⟩ ?_;apply @z7 _ ((V3 a s=true->0<=a/\(yU s)[IJ a]? = some (zr [HI,HK] (yU s) (IJ a)))/\IK Tryz.prog G 209 [II (Gl (IB (z1 (yU s) (IJ a) (0+1)) default)),.int .i64 b] λ(rs:IU D)=>∃(b_1:Bool),rs=[IL b_1]/\[IL (bif V3 a s then b_1 else false)]=[IL (yv (Hi s) (λ(x:Pe)=>Pe.away x) a b)])
 ·kernel_rfl
 delta V3 yU h82q13 wX ve su wP wH wo ya xi yJ vd wn uD uC uB uA;cases hz:s.people[a.toNat]? with
 |some z =>
  have hm:=GS hz;rw[pu hz,fy hz];have e0:Gl (IB (some (II (z.away.map intD))) default)=z.away.map intD:=rfl;rw[e0];refine⟨λh=>⟨by rw[zn,HC]at h;exact G0 h.1,nN hz⟩,(X6 z.away b (by have:=hs.away z hm;omega)).use ⟨_,rfl,?_⟩⟩;unfold yv;rw[hz,zn,zn,H4];rfl
 |none =>
  have hge:s.people.length<=a.toNat:=by
   rcases G4 a.toNat s.people.length with h|h
   ·rw[Ff h]at hz;cases hz
   ·exact h
  have hc:(bif decide (a>=0)then decide (a<((IT Hy s.people).length:Int))else false)=false:=by
   rw[H4,zn,FH];by_cases h:a>=0
   ·right;simp;omega
   ·left;simpa using h
  have e0:Gl (IB (z1 (IT Hy s.people) a.toNat (0+1)) default)=([]:IU Int).map intD:=by unfold z1;rw[G5,hz];rfl
  rw[hc,e0];refine⟨λh=>(by cases h),(X6 [] b (by decide)).use ⟨_,rfl,?_⟩⟩;unfold yv;rw[H4]at hc;rw[zn]at hc;have hc':(decide (0<=a)&&decide (a<(s.people.length:Int)))=false:=hc;rw[hc'];rfl
def V4 (a:Int) (b:Sc):Bool:=bif decide (a>=0)then decide (a<(↑(IR (ya b)):Int))else false
theorem h183 (s:Sc) (a b:Int) (hs:s.Fits):IK Tryz.prog G 183 [s.d,.int .i64 a,.int .i64 b] (· = [.bool (yv s.rooms (·.shut) a b)]):=by
 rw[zj];refine zq Tryz.func183 ⟨_,rfl⟩ ?_;apply @z7 _ ((V4 a s=true->0<=a/\(ya s)[IJ a]? = some (zr [HI,HX .i64,HX .i64,HK] (ya s) (IJ a)))/\IK Tryz.prog G 209 [II (Gl (IB (z1 (ya s) (IJ a) (0+1+1+1)) default)),.int .i64 b] λ(rs:IU D)=>∃(b_1:Bool),rs=[IL b_1]/\[IL (bif V4 a s then b_1 else false)]=[IL (yv (Hg s) (λ(x:Rm)=>Rm.shut x) a b)])
 ·kernel_rfl
 delta V4 ya h82q13 wX ve su wP wH wo yU xi yJ vd wn uD uC uB uA;cases hz:s.rooms[a.toNat]? with
 |some z =>
  have hm:=GS hz;rw[uP hz,f7 hz];have e0:Gl (IB (some (II (z.shut.map intD))) default)=z.shut.map intD:=rfl;rw[e0];refine⟨λh=>⟨by rw[zn,HC]at h;exact G0 h.1,tY hz⟩,(X6 z.shut b (by have:=hs.shut z hm;omega)).use ⟨_,rfl,?_⟩⟩;unfold yv;rw[hz,zn,zn,H4];rfl
 |none =>
  have hge:s.rooms.length<=a.toNat:=by
   rcases G4 a.toNat s.rooms.length with h|h
   ·rw[Ff h]at hz;cases hz
   ·exact h
  have hc:(bif decide (a>=0)then decide (a<((IT H8 s.rooms).length:Int))else false)=false:=by
   rw[H4,zn,FH];by_cases h:a>=0
   ·right;simp;omega
   ·left;simpa using h
  have e0:Gl (IB (z1 (IT H8 s.rooms) a.toNat (0+1+1+1)) default)=([]:IU Int).map intD:=by unfold z1;rw[G5,hz];rfl
  rw[hc,e0];refine⟨λh=>(by cases h),(X6 [] b (by decide)).use ⟨_,rfl,?_⟩⟩;unfold yv;rw[H4]at hc;rw[zn]at hc;have hc':(decide (0<=a)&&decide (a<(s.rooms.length:Int)))=false:=hc;rw[hc'];rfl
def ap (gs:IU Gr) (n z:Int):Int:=if 0<=z/\z<gs.length then Ho.wrap (n+((gs[z.toNat]?).map (·.size)).getD 0)else n
def pp (gs:IU Gr) (l:IU Int):Int:=l.foldl (ap gs) 0
def rz (s:Sc) (k:Int):Int:=if k<0∨k>=s.lessons.length then 0 else pp s.groups (((s.lessons[k.toNat]?).map (·.groups)).getD [])
theorem tW {α β:Type}(f:β->α->β) (b:β) {l:IU α}{x:Nat}{z:α}(h:l[x]? = some z):(l.take (x+1)).foldl f b=f ((l.take x).foldl f b) z:=by rw[GN,h,IU.foldl_append];rfl
def V5 (a:Int) (b:Sc):Bool:=bif decide (a<0)then true else decide (a>=(↑(IR (yJ b)):Int))
def nG (a:Sc) (b:Nat) (c:IU Int):Int:=pp (Hh a) (HZ b c)
def V6 (a:Nat) (b:IU Int):Bool:=decide ((a:Int)<(↑(IR (IT intD b)):Int))
def rB (a:IU Int) (b:Nat):Int:=Hf (IB (z1 (IT intD a) (IJ (b:Int)) 0) default)
def ao (a:Nat) (b:IU Int):Prop:=(0:Int)<=(a:Int)/\(IT intD b)[IJ (a:Int)]? = some (IP .i64 (rB b a))
def V7 (a:IU Int) (b:Nat) (c:Sc):Bool:=bif decide (rB a b>=0)then decide (rB a b<(↑(IR (xi c)):Int))else false
def V8 (a:IU Int) (b:Nat) (c:Nat):Prop:=IT intD a=IT intD a/\Hr .i64 ((b:Int)+1)=(c:Int)/\IN
theorem h208 (s:Sc) (k:Int) (hs:s.Fits):IK Tryz.prog G 208 [s.d,.int .i64 k] (· = [.int .i64 (rz s k)]):=by
 rw[zj];obtain⟨L,hL,hLf⟩:∃L:IU Int,(((s.lessons[k.toNat]?).map (·.groups)).getD [])=L/\L.length<1099511627776:=by
  cases hz:s.lessons[k.toNat]? with
  |none=>exact⟨[],rfl,by decide⟩
  |some z=>exact⟨z.groups,rfl,hs.grs z (GS hz)⟩
 refine zu (LL [(6,ze (α:=Nat) Tryz.prog G L0 0 (z8 (z6 Tryz.f208) 0) [2] (λx=>x<=L.length) (λx=>L.length - x) (λx=>[(5,.d (.int .i64 (pp s.groups (L.take x)))),(6,.d (.sl (L.map intD))),(7,.d (.int .i64 x))]) (λH _=>H))]) Tryz.func208 ⟨_,rfl⟩ (zt zz) ?_;apply @z7 _ ((V5 k s=true->[IP .i64 0]=[IP .i64 (rz s k)])/\(V5 k s=false->(0<=k/\(yJ s)[IJ k]? = some (zr [HI,HK,HK] (yJ s) (IJ k)))/\∃(x0:Nat),x0<=IR L/\((h82q13/\0=nG s x0 L/\Gl (IB (z1 (yJ s) (IJ k) (0+1+1)) default)=IT intD L/\(0:Int)=(x0:Int)/\IN)/\wP s)/\∀(x:Nat),x<=IR L->(V6 x L=true->ao x L/\(decide (rB L x>=0)=true->ao x L)/\(V7 L x s=true->ao x L/\(0<=rB L x/\(xi s)[IJ (rB L x)]? = some (zr [HI,HX .i64] (xi s) (IJ (rB L x))))/\∃(y:Nat),y<=IR L/\IR L - y<IR L - x/\(h82q13/\Hr .i64 (nG s x L+Hf (IB (z1 (xi s) (IJ (rB L x)) (0+1)) default))=nG s y L/\V8 L x y)/\wP s)/\(V7 L x s=false->∃(y:Nat),y<=IR L/\IR L - y<IR L - x/\(h82q13/\nG s x L=nG s y L/\V8 L x y)/\wP s))/\(V6 x L=false->[IP .i64 (nG s x L)]=[IP .i64 (rz s k)])))
 ·kernel_rfl
 delta V5 yJ h82q13 wX ve su wP wH wo ya yU xi vd wn uD uC uB uA nG V6 ao rB V7 V8;refine⟨λh=>?_,λh=>?_⟩
 ·rw[H4,zH,F9,HS,HS]at h;rw[rz,Hv h]
 ·rw[H4,zH,E3,HH,HH]at h;obtain⟨z,hz,hm⟩:=zw (l:=s.lessons) (x:=k.toNat) (by omega);have hLz:z.groups=L:=by rw[hz]at hL;exact hL
  have hres:rz s k=pp s.groups L:=by rw[rz,IE (by omega),hL]
  rw[uO hz,pt hz,hres];refine⟨⟨by omega,uN hz⟩,0,by omega,⟨⟨rfl,rfl,by rw[←hLz];rfl,rfl,trivial⟩,⟨rfl,rfl,rfl,rfl,rfl,trivial⟩,trivial⟩,λx hx=>⟨λhlt=>?_,λhge=>?_⟩⟩
  ·simp only[H4,HS]at hlt;obtain⟨y,hy,hym⟩:=zw (l:=L) (x:=x) (by omega);have e0:Hf (IB (some (IP .i64 y)) default)=y:=rfl;rw[HF,yK hy,e0,H4,zn];have hg:0<=(x:Int)/\(IT intD L)[x]? = some (IP .i64 y):=⟨by omega,xG hy⟩;have hstep:pp s.groups (L.take (x+1))=ap s.groups (pp s.groups (L.take x)) y:=tW (ap s.groups) 0 hy;refine⟨hg,λ_=>hg,λh2=>?_,λh2=>?_⟩
   ·rw[HC,HS,HS]at h2;obtain⟨g,hgz,hgm⟩:=zw (l:=s.groups) (x:=y.toNat) (by omega);rw[nM hgz,mA hgz];refine⟨hg,⟨by omega,ke hgz⟩,x+1,by omega,by omega,⟨rfl,?_,rfl,by rw[zx (by omega) (by omega)];rfl,trivial⟩,⟨rfl,rfl,rfl,rfl,rfl,trivial⟩,trivial⟩;rw[hstep,ap,Hv (by omega),hgz];rfl
   ·rw[FH,HH,HH]at h2;refine⟨x+1,by omega,by omega,⟨rfl,?_,rfl,by rw[zx (by omega) (by omega)];rfl,trivial⟩,⟨rfl,rfl,rfl,rfl,rfl,trivial⟩,trivial⟩;rw[hstep,ap,IE (by omega)]
  ·simp only[H4,HH]at hge;rw[Gs (by omega)]
def xP (n:Int) (x:Rm):Bool:=decide (0<=x.house)&&decide (x.house<=7)&&decide (0<=x.seats)&&decide (x.seats<=1000)&&y3 x.shut n
def xw (x:Gr):Bool:=decide (0<=x.size)&&decide (x.size<=1000)
def yX (p g:Int) (x:Le):Bool:=y3 x.who p&&y3 x.groups g
def x8 (s:Sc) (n:Nat):Bool:=(Gp n).all λk=>za (zf s (k+1))
def vP (s:Sc):Bool:=x8 s 5&&s.rooms.all (xP s.slots.length)&&s.people.all (λx=>y3 x.away s.slots.length)&&s.groups.all xw&&s.lessons.all (yX s.people.length s.groups.length)&&uM s.slots&& !s.rooms.isEmpty
theorem kW {α:Type}{l:IU α}{f:α->Bool}{z:α}(hm:z∈l) (h:f z=false):l.all f=false:=by rw[D3];exact⟨z,hm,by simp[h]⟩
theorem po {α:Type}{l:IU α}{f:α->Bool}{z:α}{x:Nat}(hz:l[x]? = some z) (h:(l.take x).all f=true) (h2:f z=true):(l.take (x+1)).all f=true:=by rw[GN,hz,Fb,h];simp[h2]
theorem c8 {s:Sc}(hs:s.Fits) (k:Int):(zf s k).length<4611686018427387904/\∀n∈zf s k,n.length<4611686018427387904:=by
 have h1:=hs.slots;have h2:=hs.rooms;have h3:=hs.people;have h4:=hs.groups;have h5:=hs.lessons;unfold zf;split
 ·refine⟨by simp;omega,λn hn=>?_⟩;obtain⟨x,hx,rfl⟩:=Gd.1 hn;have:=hs.nle x hx;omega
 split
 ·refine⟨by simp;omega,λn hn=>?_⟩;obtain⟨x,hx,rfl⟩:=Gd.1 hn;have:=hs.nsl x hx;omega
 split
 ·refine⟨by simp;omega,λn hn=>?_⟩;obtain⟨x,hx,rfl⟩:=Gd.1 hn;have:=hs.nrm x hx;omega
 split
 ·refine⟨by simp;omega,λn hn=>?_⟩;obtain⟨x,hx,rfl⟩:=Gd.1 hn;have:=hs.npe x hx;omega
 split
 ·refine⟨by simp;omega,λn hn=>?_⟩;obtain⟨x,hx,rfl⟩:=Gd.1 hn;have:=hs.ngr x hx;omega
 split
 ·exact⟨by decide,by decide⟩
 split
 ·exact⟨by decide,by decide⟩
 ·exact⟨by decide,by decide⟩
def ff (a:Nat) (b:Sc):Prop:=a<=5/\x8 b a=true
def lv (a:IU D) (b:Bool):Prop:=a=[IL b]
def nF (a:Sc):Prop:=[IL false]=[IL (vP a)]
def X7 (a:Nat) (b:Sc):Prop:=a<=IR (Hg b)/\F0 (HZ a (Hg b)) (xP (↑(IR (Hk b)):Int))=true
def cy (a:Nat) (b:Sc):Prop:=(h82q13/\(0:Int)=(a:Int)/\IN)/\wP b
def an (a:Sc) (b:Nat):Int:=Hf (IB (z1 (ya a) (IJ (b:Int)) (0+1)) default)
def am (a:Sc) (b:Nat):Int:=Hf (IB (z1 (ya a) (IJ (b:Int)) (0+1+1)) default)
def al (a:Sc) (b:Nat) (c:Bool):Bool:=bif bif bif bif decide (an a b<0)then true else decide (an a b>7)then true else decide (am a b<0)then true else decide (am a b>1000)then true else !c
def cx (a:Nat) (b:Nat) (c:Sc):Prop:=(h82q13/\Hr .i64 ((a:Int)+1)=(b:Int)/\IN)/\wP c
def X8 (a:Nat) (b:Sc):Prop:=a<=IR (Hi b)/\(F0 (HZ a (Hi b)) λ(x:Pe)=>y3 (Pe.away x) (↑(IR (Hk b)):Int))=true
def fe (a:Nat) (b:Sc):Prop:=a<=IR (Hh b)/\F0 (HZ a (Hh b)) xw=true
def TQ (a:Nat) (b:Sc):Prop:=(0:Int)<=(a:Int)/\(xi b)[IJ (a:Int)]? = some (zr [HI,HX .i64] (xi b) (IJ (a:Int)))
def X9 (a:Sc) (b:Nat):Int:=Hf (IB (z1 (xi a) (IJ (b:Int)) (0+1)) default)
def fc (a:Sc) (b:Nat):Bool:=decide (X9 a b<0)
def Xz (a:Nat) (b:Sc):Prop:=a<=IR (Hn b)/\F0 (HZ a (Hn b)) (yX (↑(IR (Hi b)):Int) (↑(IR (Hh b)):Int))=true
def TP (a:Nat) (b:Sc):Prop:=(0:Int)<=(a:Int)/\(yJ b)[IJ (a:Int)]? = some (zr [HI,HK,HK] (yJ b) (IJ (a:Int)))
theorem h93 (s:Sc) (hs:s.Fits):IK Tryz.prog G 93 [s.d] (· = [.bool (vP s)]):=by
 have h82:=λk=>h82 (G:=G) s k hs;rw[zj]at *;refine zu (LL [(2,ze (α:=Nat) Tryz.prog G L0 0 (z8 (z6 Tryz.f93) 0) [1] (λx=>x<=5/\x8 s x=true) (λx=>5 - x) (λx=>[(3,.d (.int .i64 (x+1)))]) (λH _=>H)),(7,ze (α:=Nat) Tryz.prog G L0 0 (z8 (z6 Tryz.f93) 1) [1] (λx=>x<=s.rooms.length/\(s.rooms.take x).all (xP s.slots.length)=true) (λx=>s.rooms.length - x) (λx=>[(4,.d (.int .i64 x))]) (λH _=>[H.getD 0 .dead])),(13,ze (α:=Nat) Tryz.prog G L0 0 (z8 (z6 Tryz.f93) 2) [1] (λx=>x<=s.people.length/\(s.people.take x).all (λx=>y3 x.away s.slots.length)=true) (λx=>s.people.length - x) (λx=>[(6,.d (.int .i64 x))]) (λH _=>[H.getD 0 .dead])),(18,ze (α:=Nat) Tryz.prog G L0 0 (z8 (z6 Tryz.f93) 3) [1] (λx=>x<=s.groups.length/\(s.groups.take x).all xw=true) (λx=>s.groups.length - x) (λx=>[(7,.d (.int .i64 x))]) (λH _=>[H.getD 0 .dead])),(23,ze (α:=Nat) Tryz.prog G L0 0 (z8 (z6 Tryz.f93) 4) [1] (λx=>x<=s.lessons.length/\(s.lessons.take x).all (yX s.people.length s.groups.length)=true) (λx=>s.lessons.length - x) (λx=>[(8,.d (.int .i64 x))]) (λH _=>[H.getD 0 .dead]))]) Tryz.func93 ⟨_,rfl⟩ (zp.five (b1:=z8 (z6 Tryz.f93) 0) (b2:=z8 (z6 Tryz.f93) 1) (b3:=z8 (z6 Tryz.f93) 2) (b4:=z8 (z6 Tryz.f93) 3) (b5:=z8 (z6 Tryz.f93) 4) (by kernel_rfl) (by kernel_rfl) (by kernel_rfl) (by kernel_rfl) (by kernel_rfl) (by kernel_rfl) zz zz zz zz zz) ?_;apply @z7 _ (∃(x0:Nat),ff x0 s/\((h82q13/\(1:Int)=(x0:Int)+1/\IN)/\wP s)/\∀(x:Nat),ff x s->(decide ((x:Int)+(1:Int)<=5)=true->IK Tryz.prog G 82 [Hd [.sl (wo s),.sl (ya s),.sl (yU s),.sl (xi s),.sl (yJ s)],.int .i64 ((x:Int)+1)] λ(rs:IU D)=>∃(l:IU D),rs=[II l]/\IK Tryz.prog G 143 [II l] λ(rs:IU D)=>∃(b:Bool),lv rs b/\((!b)=true->nF s)/\((!b)=false->∃(y:Nat),ff y s/\5 - y<5 - x/\(h82q13/\Hr .i64 ((x:Int)+(1:Int)+1)=(y:Int)+1/\IN)/\wP s))/\(decide ((x:Int)+(1:Int)<=5)=false->∃(x0:Nat),X7 x0 s/\cy x0 s/\∀(x:Nat),X7 x s->(decide ((x:Int)<(↑(IR (ya s)):Int))=true->((0:Int)<=(x:Int)/\(ya s)[IJ (x:Int)]? = some (zr [HI,HX .i64,HX .i64,HK] (ya s) (IJ (x:Int))))/\IK Tryz.prog G 144 [II (Gl (IB (z1 (ya s) (IJ (x:Int)) (0+1+1+1)) default)),.int .i64 (↑(IR (wo s)):Int)] λ(rs:IU D)=>∃(b:Bool),lv rs b/\(al s x b=true->nF s)/\(al s x b=false->∃(y:Nat),X7 y s/\IR (Hg s) - y<IR (Hg s) - x/\cx x y s))/\(decide ((x:Int)<(↑(IR (ya s)):Int))=false->∃(x0:Nat),X8 x0 s/\cy x0 s/\∀(x:Nat),X8 x s->(decide ((x:Int)<(↑(IR (yU s)):Int))=true->((0:Int)<=(x:Int)/\(yU s)[IJ (x:Int)]? = some (zr [HI,HK] (yU s) (IJ (x:Int))))/\IK Tryz.prog G 144 [II (Gl (IB (z1 (yU s) (IJ (x:Int)) (0+1)) default)),.int .i64 (↑(IR (wo s)):Int)] λ(rs:IU D)=>∃(b:Bool),lv rs b/\((!b)=true->nF s)/\((!b)=false->∃(y:Nat),X8 y s/\IR (Hi s) - y<IR (Hi s) - x/\cx x y s))/\(decide ((x:Int)<(↑(IR (yU s)):Int))=false->∃(x0:Nat),fe x0 s/\cy x0 s/\∀(x:Nat),fe x s->(decide ((x:Int)<(↑(IR (xi s)):Int))=true->TQ x s/\(fc s x=false->TQ x s)/\((bif fc s x then true else decide (X9 s x>1000))=true->nF s)/\((bif fc s x then true else decide (X9 s x>1000))=false->∃(y:Nat),fe y s/\IR (Hh s) - y<IR (Hh s) - x/\cx x y s))/\(decide ((x:Int)<(↑(IR (xi s)):Int))=false->∃(x0:Nat),Xz x0 s/\cy x0 s/\∀(x:Nat),Xz x s->(decide ((x:Int)<(↑(IR (yJ s)):Int))=true->TP x s/\IK Tryz.prog G 144 [II (Gl (IB (z1 (yJ s) (IJ (x:Int)) (0+1)) default)),.int .i64 (↑(IR (yU s)):Int)] λ(rs:IU D)=>∃(b:Bool),lv rs b/\((!b)=false->TP x s)/\IK Tryz.prog G 144 [II (Gl (IB (z1 (yJ s) (IJ (x:Int)) (0+1+1)) default)),.int .i64 (↑(IR (xi s)):Int)] λ(rs:IU D)=>∃(b_1:Bool),lv rs b_1/\((bif !b then true else !b_1)=true->nF s)/\((bif !b then true else !b_1)=false->∃(y:Nat),Xz y s/\IR (Hn s) - y<IR (Hn s) - x/\cx x y s))/\(decide ((x:Int)<(↑(IR (yJ s)):Int))=false->IK Tryz.prog G 145 [II (wo s)] λ(rs:IU D)=>∃(b:Bool),lv rs b/\[IL (bif b then decide ((↑(IR (ya s)):Int)>0)else false)]=[IL (vP s)]))))))
 ·kernel_rfl
 delta ff h82q13 wX ve su wP wH wo ya yU xi yJ vd wn uD uC uB uA lv nF X7 cy al an am cx X8 fe TQ fc X9 Xz TP;have hL1:=hs.slots;have hL2:=hs.rooms;have hL3:=hs.people;have hL4:=hs.groups;have hL5:=hs.lessons;have n1:x8 s 5=false->vP s=false:=λh=>by unfold vP;rw[h];rfl
 have n2:s.rooms.all (xP s.slots.length)=false->vP s=false:=λh=>by unfold vP;rw[h];simp
 have n3:s.people.all (λx=>y3 x.away s.slots.length)=false->vP s=false:=λh=>by unfold vP;rw[h];simp
 have n4:s.groups.all xw=false->vP s=false:=λh=>by unfold vP;rw[h];simp
 have n5:s.lessons.all (yX s.people.length s.groups.length)=false->vP s=false:=λh=>by unfold vP;rw[h];simp
 have ei (n:Int):Hf (IB (some (IP .i64 n)) default)=n:=rfl;have el (l:IU Int):Gl (IB (some (II (l.map intD))) default)=l.map intD:=rfl;refine⟨0,⟨by omega,rfl⟩,⟨⟨rfl,rfl,trivial⟩,⟨rfl,rfl,rfl,rfl,rfl,trivial⟩,trivial⟩,λx hx=>⟨λhlt=>?_,λhge=>?_⟩⟩
 ·have hx5:x<5:=by have:=G0 hlt;omega
  obtain⟨f1,f2⟩:=c8 hs (x+1);refine(h82 (x+1)).use ⟨_,rfl,(J0 (zf s (x+1)) f1 f2).use ⟨_,rfl,λh=>?_,λh=>⟨x+1,⟨by omega,?_⟩,by omega,⟨rfl,by rw[zx (by omega) (by omega)];rfl,trivial⟩,⟨rfl,rfl,rfl,rfl,rfl,trivial⟩,trivial⟩⟩⟩
  ·rw[n1];unfold x8;exact kW (Fz.2 hx5) (by simpa using h)
  ·unfold x8;rw[BP,Fb];have h2:za (zf s (x+1))=true:=by simpa using h
   have h3:=hx.2;unfold x8 at h3;rw[h3];simp[h2]
 have hall5:x8 s 5=true:=by
  have h1:=of_decide_eq_false hge;have:x=5:=by omega
  rw[←this];exact hx.2
 clear hx hge x;refine⟨0,⟨by omega,rfl⟩,⟨⟨rfl,rfl,trivial⟩,⟨rfl,rfl,rfl,rfl,rfl,trivial⟩,trivial⟩,λx hx=>⟨λhlt=>?_,λhge=>?_⟩⟩
 ·simp only[H4,HS]at hlt;obtain⟨z,hz,hm⟩:=zw (l:=s.rooms) (x:=x) (by omega);simp only[HF,uP hz,mC hz,mB hz,f7 hz,ei,el,H4];refine⟨⟨by omega,tY hz⟩,(NW z.shut s.slots.length (by have:=hs.shut z hm;omega)).use ⟨_,rfl,?_⟩⟩;have hc:(bif bif bif bif decide (z.house<0)then true else decide (z.house>7)then true else decide (z.seats<0)then true else decide (z.seats>1000)then true else !y3 z.shut s.slots.length) = !xP s.slots.length z:=by
   simp only[zH,xP];cases y3 z.shut s.slots.length
   ·simp
   ·rw[Ge];simp
  rw[hc];refine⟨λh=>?_,λh=>⟨x+1,⟨by omega,po hz hx.2 (by simpa using h)⟩,by omega,⟨by trivial,by rw[zx (by omega) (by omega)];rfl,trivial⟩,⟨by trivial,by trivial,by trivial,by trivial,by trivial,trivial⟩,trivial⟩⟩;rw[n2 (kW hm (by simpa using h))]
 have hall2:s.rooms.all (xP s.slots.length)=true:=by simp only[H4,HH]at hge;have:=hx.2;rwa [Gs (by omega)]at this
 clear hx hge x;refine⟨0,⟨by omega,rfl⟩,⟨⟨rfl,rfl,trivial⟩,⟨rfl,rfl,rfl,rfl,rfl,trivial⟩,trivial⟩,λx hx=>⟨λhlt=>?_,λhge=>?_⟩⟩
 ·simp only[H4,HS]at hlt;obtain⟨z,hz,hm⟩:=zw (l:=s.people) (x:=x) (by omega);simp only[HF,pu hz,fy hz,ei,el,H4];refine⟨⟨by omega,nN hz⟩,(NW z.away s.slots.length (by have:=hs.away z hm;omega)).use ⟨_,rfl,λh=>?_,λh=>⟨x+1,⟨by omega,po hz hx.2 (by simpa using h)⟩,by omega,⟨by trivial,by rw[zx (by omega) (by omega)];rfl,trivial⟩,⟨by trivial,by trivial,by trivial,by trivial,by trivial,trivial⟩,trivial⟩⟩⟩;rw[n3 (kW hm (by simpa using h))]
 have hall3:s.people.all (λx=>y3 x.away s.slots.length)=true:=by simp only[H4,HH]at hge;have:=hx.2;rwa [Gs (by omega)]at this
 clear hx hge x;refine⟨0,⟨by omega,rfl⟩,⟨⟨rfl,rfl,trivial⟩,⟨rfl,rfl,rfl,rfl,rfl,trivial⟩,trivial⟩,λx hx=>⟨λhlt=>?_,λhge=>?_⟩⟩
 ·simp only[H4,HS]at hlt;obtain⟨z,hz,hm⟩:=zw (l:=s.groups) (x:=x) (by omega);simp only[HF,nM hz,mA hz,ei,el];have hg:0<=(x:Int)/\(IT Hx s.groups)[x]? = some z.d:=⟨by omega,ke hz⟩;have hc:(bif decide (z.size<0)then true else decide (z.size>1000)) = !xw z:=by simp only[zH,xw];rw[Ge];simp
  rw[hc];refine⟨hg,λ_=>hg,λh=>?_,λh=>⟨x+1,⟨by omega,po hz hx.2 (by simpa using h)⟩,by omega,⟨by trivial,by rw[zx (by omega) (by omega)];rfl,trivial⟩,⟨by trivial,by trivial,by trivial,by trivial,by trivial,trivial⟩,trivial⟩⟩;rw[n4 (kW hm (by simpa using h))]
 have hall4:s.groups.all xw=true:=by simp only[H4,HH]at hge;have:=hx.2;rwa [Gs (by omega)]at this
 clear hx hge x;refine⟨0,⟨by omega,rfl⟩,⟨⟨rfl,rfl,trivial⟩,⟨rfl,rfl,rfl,rfl,rfl,trivial⟩,trivial⟩,λx hx=>⟨λhlt=>?_,λhge=>?_⟩⟩
 ·simp only[H4,HS]at hlt;obtain⟨z,hz,hm⟩:=zw (l:=s.lessons) (x:=x) (by omega);simp only[HF,uO hz,fu hz,pt hz,ei,el,H4];have hg:0<=(x:Int)/\(IT H7 s.lessons)[x]? = some z.d:=⟨by omega,uN hz⟩;refine⟨hg,(NW z.who s.people.length (by have:=hs.who z hm;omega)).use ⟨_,rfl,λ_=>hg,(NW z.groups s.groups.length (by have:=hs.grs z hm;omega)).use ⟨_,rfl,?_⟩⟩⟩;have hc:(bif !y3 z.who s.people.length then true else !y3 z.groups s.groups.length) = !yX s.people.length s.groups.length z:=by simp only[zH,yX,Bool.not_and]
  rw[hc];refine⟨λh=>?_,λh=>⟨x+1,⟨by omega,po hz hx.2 (by simpa using h)⟩,by omega,⟨by trivial,by rw[zx (by omega) (by omega)];rfl,trivial⟩,⟨by trivial,by trivial,by trivial,by trivial,by trivial,trivial⟩,trivial⟩⟩;rw[n5 (kW hm (by simpa using h))]
 have hall6:s.lessons.all (yX s.people.length s.groups.length)=true:=by simp only[H4,HH]at hge;have:=hx.2;rwa [Gs (by omega)]at this
 refine(J1 s.slots (by omega)).use ⟨_,rfl,?_⟩;unfold vP;rw[hall5,hall2,hall3,hall4,hall6,zn,H4];cases s.rooms<;>simp
def yI (s:Sc):Int:=if vP s=false then 1 else if s.slots.length>50∨s.rooms.length>32∨s.people.length>64∨s.groups.length>64∨s.lessons.length>64 then 2 else 0
def TO (a:Sc):IU D:=[IP .i64 (yI a)]
def Pa (a:Sc):Bool:=bif bif bif bif decide ((↑(IR (wo a)):Int)>50)then true else decide ((↑(IR (ya a)):Int)>32)then true else decide ((↑(IR (yU a)):Int)>64)then true else decide ((↑(IR (xi a)):Int)>64)then true else decide ((↑(IR (yJ a)):Int)>64)
theorem h54 (s:Sc) (hs:s.Fits):IK Tryz.prog G 54 [s.d] (· = [.int .i64 (yI s)]):=by
 have h93:=h93 (G:=G) s hs;rw[zj]at *;refine zq Tryz.func54 ⟨_,rfl⟩ ?_;apply @z7 _ (IK Tryz.prog G 93 [Hd [.sl (wo s),.sl (ya s),.sl (yU s),.sl (xi s),.sl (yJ s)]] λ(rs:IU D)=>∃(b:Bool),lv rs b/\((!b)=true->[IP .i64 1]=TO s)/\((!b)=false->(Pa s=true->[IP .i64 2]=TO s)/\(Pa s=false->[IP .i64 0]=TO s)))
 ·kernel_rfl
 delta wo h82q13 wX ve su wP wH ya yU xi yJ vd wn uD uC uB uA lv ff nF X7 cy al an am cx X8 fe TQ fc X9 Xz TP TO Pa;refine h93.use ⟨_,rfl,λh=>?_,λh=>?_⟩
 ·rw[yI,Hv (by simpa using h)]
 ·simp only[H4,zH,F9,E3,HS,HH];rw[yI,IE (by simpa using h)];refine⟨λh2=>by rw[Hv (by omega)],λh2=>by rw[IE (by omega)]⟩
end
section
variable {G:Nat->IQ (IU D)}
def kV (a:Nat×Int) (b:Sc):Prop:=Hw a<=IR (Hg b)
def h45q12:Prop:=IA 0 0=IA 0 0
def ss (a:Sc):IU D:=IT H8 (Hg a)
def u7 (a:Sc):IU D:=IT Hy (Hi a)
def tV (a:Sc):IU D:=IT H7 (Hn a)
def ry (a:Sc):Prop:=(IT H9 (Hk a)=IT H9 (Hk a)/\ss a=ss a/\u7 a=u7 a/\IT Hx (Hh a)=IT Hx (Hh a)/\tV a=tV a/\IN)/\IN
def nE (a:Nat×Int):Bool:=decide ((↑(Hw a):Int)<80)
def Xy (a:Nat×Int) (b:Sc):Bool:=bif decide ((↑(Hw a):Int)<(↑(IR (ss b)):Int))then nE a else false
def wW (a:Nat×Int):Nat:=IJ (↑(Hw a):Int)
def ud (a:Nat×Int):Int:=(↑(Hw a):Int)+1
def nD (a:Nat×Int) (b:Nat×Int):Prop:=Hr .i64 (ud a)=(↑(Hw b):Int)/\IN
def kU (a:Nat×Int) (b:Sc):Prop:=Hw a<=IR (Hi b)
def Xx (a:Nat×Int) (b:Sc):Bool:=bif decide ((↑(Hw a):Int)<(↑(IR (u7 b)):Int))then nE a else false
def cw (a:Nat×Int) (b:Sc):Prop:=Hw a<=IR (Hn b)
def fb (a:Nat×Int) (b:Sc):Bool:=bif decide ((↑(Hw a):Int)<(↑(IR (tV b)):Int))then nE a else false
def Xw (a:Nat×Int) (b:Sc):Prop:=(0:Int)<=(↑(Hw a):Int)/\(tV b)[wW a]? = some (zr [HI,HK,HK] (tV b) (wW a))
def kT (a:Nat×Int) (b:Sc) (c:Nat×Int):Prop:=Hw a<=IR (zf b (ud c))
def Xv (a:Nat×Int) (b:IU D):Bool:=bif decide ((↑(Hw a):Int)<(↑(IR b):Int))then nE a else false
theorem h45 (s:Sc) (hs:s.Fits):IK Tryz.prog G 45 [s.d] (λrs=>∃b,rs=[.bool b]):=by
 have h82:=λk=>h82 (G:=G) s k hs;rw[zj]at *;refine zu (LL [(3,ze (α:=Nat×Int) Tryz.prog G L0 0 (z8 (z6 Tryz.f45) 0) [1] (λx=>x.1<=s.rooms.length) (λx=>s.rooms.length - x.1) (λx=>[(3,.d (.int .i64 x.2)),(4,.d (.int .i64 x.1))]) (λH _=>H)),(7,ze (α:=Nat×Int) Tryz.prog G L0 0 (z8 (z6 Tryz.f45) 1) [1] (λx=>x.1<=s.people.length) (λx=>s.people.length - x.1) (λx=>[(3,.d (.int .i64 x.2)),(5,.d (.int .i64 x.1))]) (λH _=>H)),(11,ze (α:=Nat×Int) Tryz.prog G L0 0 (z8 (z6 Tryz.f45) 2) [1] (λx=>x.1<=s.lessons.length) (λx=>s.lessons.length - x.1) (λx=>[(3,.d (.int .i64 x.2)),(6,.d (.int .i64 x.1))]) (λH _=>H)),(15,xH (α:=Nat×Int) Tryz.prog G (λi=>LL [(19,ze (α:=Nat×Int) Tryz.prog G L0 0 (z8 (z8 (z6 Tryz.f45) 3) 0) [1,7,8] (λx=>x.1<=(zf s (i.1+1)).length) (λx=>(zf s (i.1+1)).length - x.1) (λx=>[(3,.d (.int .i64 x.2)),(9,.d (.int .i64 x.1))]) (λH _=>H))]) 0 (z8 (z6 Tryz.f45) 3) [1] (λx=>x.1<=5) (λx=>5 - x.1) (λx=>[(3,.d (.int .i64 x.2)),(7,.d (.int .i64 (x.1+1)))]) (λH _=>H))]) Tryz.func45 ⟨_,true,rfl⟩ (zp.four (b1:=z8 (z6 Tryz.f45) 0) (b2:=z8 (z6 Tryz.f45) 1) (b3:=z8 (z6 Tryz.f45) 2) (b4:=z8 (z6 Tryz.f45) 3) (by kernel_rfl) (by kernel_rfl) (by kernel_rfl) (by kernel_rfl) (by kernel_rfl) zz zz zz (zA mixed (λ_=>zt zz))) ?_;apply @z7 _ (∃(x0:Nat×Int),kV x0 s/\((h45q12/\0=HL x0/\(0:Int)=(↑(Hw x0):Int)/\IN)/\ry s)/\∀(x:Nat×Int),kV x s->(Xy x s=true->((0:Int)<=(↑(Hw x):Int)/\(ss s)[wW x]? = some (zr [HI,HX .i64,HX .i64,HK] (ss s) (wW x)))/\∃(y:Nat×Int),kV y s/\IR (Hg s) - Hw y<IR (Hg s) - Hw x/\(h45q12/\Hr .i64 (HL x+(↑(IR (Gl (IB (z1 (ss s) (wW x) (0+1+1+1)) default))):Int))=HL y/\nD x y)/\ry s)/\(Xy x s=false->∃(x0:Nat×Int),kU x0 s/\((h45q12/\HL x=HL x0/\(0:Int)=(↑(Hw x0):Int)/\IN)/\ry s)/\∀(x:Nat×Int),kU x s->(Xx x s=true->((0:Int)<=(↑(Hw x):Int)/\(u7 s)[wW x]? = some (zr [HI,HK] (u7 s) (wW x)))/\∃(y:Nat×Int),kU y s/\IR (Hi s) - Hw y<IR (Hi s) - Hw x/\(h45q12/\Hr .i64 (HL x+(↑(IR (Gl (IB (z1 (u7 s) (wW x) (0+1)) default))):Int))=HL y/\nD x y)/\ry s)/\(Xx x s=false->∃(x0:Nat×Int),cw x0 s/\((h45q12/\HL x=HL x0/\(0:Int)=(↑(Hw x0):Int)/\IN)/\ry s)/\∀(x:Nat×Int),cw x s->(fb x s=true->Xw x s/\Xw x s/\∃(y:Nat×Int),cw y s/\IR (Hn s) - Hw y<IR (Hn s) - Hw x/\(h45q12/\Hr .i64 (Hr .i64 (HL x+(↑(IR (Gl (IB (z1 (tV s) (wW x) (0+1)) default))):Int))+(↑(IR (Gl (IB (z1 (tV s) (wW x) (0+1+1)) default))):Int))=HL y/\nD x y)/\ry s)/\(fb x s=false->∃(x0:Nat×Int),Hw x0<=5/\((h45q12/\HL x=HL x0/\1=ud x0/\IN)/\ry s)/\∀(x:Nat×Int),Hw x<=5->(decide (ud x<=5)=true->IK Tryz.prog G 82 [Hd [.sl (IT H9 (Hk s)),.sl (ss s),.sl (u7 s),.sl (IT Hx (Hh s)),.sl (tV s)],.int .i64 (ud x)] λ(rs:IU D)=>∃(l:IU D),rs=[II l]/\∃(x0:Nat×Int),kT x0 s x/\((h45q12/\HL x=HL x0/\ud x=ud x/\l=l/\(0:Int)=(↑(Hw x0):Int)/\IN)/\ry s)/\∀(x_1:Nat×Int),kT x_1 s x->(Xv x_1 l=true->((0:Int)<=(↑(Hw x_1):Int)/\l[wW x_1]? = some (HW (Gc (IB (z1 l (wW x_1) 0) default))))/\∃(y:Nat×Int),kT y s x/\IR (zf s (ud x)) - Hw y<IR (zf s (ud x)) - Hw x_1/\(h45q12/\Hr .i64 (HL x_1+(↑(IR (Gc (IB (z1 l (wW x_1) 0) default))):Int))=HL y/\ud x=ud x/\l=l/\nD x_1 y)/\ry s)/\(Xv x_1 l=false->(decide ((↑(IR l):Int)>80)=true->∃(b:Bool),[IL false]=[IL b])/\(decide ((↑(IR l):Int)>80)=false->∃(y:Nat×Int),Hw y<=5/\5 - Hw y<5 - Hw x/\(h45q12/\HL x_1=HL y/\Hr .i64 (ud x+1)=ud y/\IN)/\ry s)))/\(decide (ud x<=5)=false->∃(b:Bool),[IL (decide (HL x<=20000))]=[IL b])))))
 ·kernel_rfl
 delta kV h45q12 ry ss u7 tV Xy nE wW nD ud kU Xx cw fb Xw kT Xv;have hL1:=hs.slots;have hL2:=hs.rooms;have hL3:=hs.people;have hL4:=hs.groups;have hL5:=hs.lessons;refine⟨(0,0),GD _,⟨⟨rfl,rfl,rfl,trivial⟩,⟨rfl,rfl,rfl,rfl,rfl,trivial⟩,trivial⟩,λx hx=>⟨λhlt=>?_,λ_=>?_⟩⟩
 ·rw[zn,HC,HS,H4]at hlt;obtain⟨z,hz,hm⟩:=zw (l:=s.rooms) (x:=x.1) (by omega);rw[HF,uP hz];refine⟨⟨by omega,tY hz⟩,(x.1+1,_),by show x.1+1<=_;omega,by show _ - (x.1+1)<_;omega,⟨rfl,rfl,by rw[zx (by omega) (by omega)];rfl,trivial⟩,⟨rfl,rfl,rfl,rfl,rfl,trivial⟩,trivial⟩
 refine⟨(0,x.2),GD _,⟨⟨rfl,rfl,rfl,trivial⟩,⟨rfl,rfl,rfl,rfl,rfl,trivial⟩,trivial⟩,λx hx=>⟨λhlt=>?_,λ_=>?_⟩⟩
 ·rw[zn,HC,HS,H4]at hlt;obtain⟨z,hz,hm⟩:=zw (l:=s.people) (x:=x.1) (by omega);rw[HF,pu hz];refine⟨⟨by omega,nN hz⟩,(x.1+1,_),by show x.1+1<=_;omega,by show _ - (x.1+1)<_;omega,⟨rfl,rfl,by rw[zx (by omega) (by omega)];rfl,trivial⟩,⟨rfl,rfl,rfl,rfl,rfl,trivial⟩,trivial⟩
 refine⟨(0,x.2),GD _,⟨⟨rfl,rfl,rfl,trivial⟩,⟨rfl,rfl,rfl,rfl,rfl,trivial⟩,trivial⟩,λx hx=>⟨λhlt=>?_,λ_=>?_⟩⟩
 ·rw[zn,HC,HS,H4]at hlt;obtain⟨z,hz,hm⟩:=zw (l:=s.lessons) (x:=x.1) (by omega);rw[HF,uO hz];refine⟨⟨by omega,uN hz⟩,⟨by omega,uN hz⟩,(x.1+1,_),by show x.1+1<=_;omega,by show _ - (x.1+1)<_;omega,⟨rfl,rfl,by rw[zx (by omega) (by omega)];rfl,trivial⟩,⟨rfl,rfl,rfl,rfl,rfl,trivial⟩,trivial⟩
 refine⟨(0,x.2),GD _,⟨⟨rfl,rfl,rfl,trivial⟩,⟨rfl,rfl,rfl,rfl,rfl,trivial⟩,trivial⟩,λx hx=>⟨λhlt=>?_,λ_=>⟨_,rfl⟩⟩⟩;have hx5:x.1<5:=by have:=G0 hlt;omega
 obtain⟨f1,f2⟩:=c8 hs (x.1+1);refine(h82 (x.1+1)).use ⟨_,rfl,(0,x.2),GD _,⟨⟨rfl,rfl,rfl,rfl,rfl,trivial⟩,⟨rfl,rfl,rfl,rfl,rfl,trivial⟩,trivial⟩,λy hy=>⟨λhl2=>?_,λ_=>⟨λ_=>⟨_,rfl⟩,λ_=>?_⟩⟩⟩
 ·rw[zn,HC,HS,H4]at hl2;obtain⟨z,hz,hm⟩:=zw (l:=zf s (x.1+1)) (x:=y.1) (by omega);rw[HF,kc hz];refine⟨⟨by omega,iq hz⟩,(y.1+1,_),by show y.1+1<=_;omega,by show _ - (y.1+1)<_;omega,⟨rfl,rfl,rfl,rfl,by rw[zx (by omega) (by omega)];rfl,trivial⟩,⟨rfl,rfl,rfl,rfl,rfl,trivial⟩,trivial⟩
 ·exact⟨(x.1+1,y.2),by show x.1+1<=5;omega,by show 5 - (x.1+1)<5 - x.1;omega,⟨rfl,rfl,by rw[zx (by omega) (by omega)];rfl,trivial⟩,⟨rfl,rfl,rfl,rfl,rfl,trivial⟩,trivial⟩
def xX (s:Sc) (p:Pl):Bool:=decide (0<=p.slot)&&decide (p.slot<s.slots.length)&&decide (0<=p.room)&&decide (p.room<s.rooms.length)
def y4 (s:Sc) (w:IU Pl):Int:=if yI s≠0 then yI s else if w.length≠s.lessons.length∨w.all (xX s)=false then 40 else 0
theorem zO (w:IU Pl):xl w = .agg [.sl (w.map H6)]:=rfl
def cu (a:Sc) (b:IU Pl):IU D:=[IP .i64 (y4 a b)]
def TN (a:IU Pl) (b:Sc):Bool:=(↑(IR (IT H6 a)):Int) != (↑(IR (tV b)):Int)
def Xu (a:Nat) (b:IU Pl) (c:Sc):Prop:=a<=IR b/\F0 (HZ a b) (xX c)=true
def TM (a:Sc) (b:IU Pl):Prop:=(IT H9 (Hk a)=IT H9 (Hk a)/\ss a=ss a/\u7 a=u7 a/\IT Hx (Hh a)=IT Hx (Hh a)/\tV a=tV a/\IN)/\(IT H6 b=IT H6 b/\IN)/\IN
def Xt (a:IU Pl) (b:Nat):Int:=Hf (IB (z1 (IT H6 a) (IJ (b:Int)) 0) default)
def Xs (a:IU Pl) (b:Nat):Int:=Hf (IB (z1 (IT H6 a) (IJ (b:Int)) (0+1)) default)
def TL (a:IU Pl) (b:Nat) (c:Sc):Bool:=bif bif bif decide (Xt a b<0)then true else decide (Xt a b>=(↑(IR (IT H9 (Hk c))):Int))then true else decide (Xs a b<0)then true else decide (Xs a b>=(↑(IR (ss c)):Int))
theorem h53 (s:Sc) (w:IU Pl) (hs:s.Fits) (hw:w.length<1099511627776):IK Tryz.prog G 53 [s.d,xl w] (· = [.int .i64 (y4 s w)]):=by
 have h54:=h54 (G:=G) s hs;rw[zj,zO]at *;refine zu (LL [(7,ze (α:=Nat) Tryz.prog G L0 0 (z8 (z6 Tryz.f53) 0) [2,3] (λx=>x<=w.length/\(w.take x).all (xX s)=true) (λx=>w.length - x) (λx=>[(6,.d (.int .i64 x))]) (λH _=>[H.getD 0 .dead,H.getD 1 .dead]))]) Tryz.func53 ⟨_,rfl⟩ (zt zz) ?_;apply @z7 _ (IK Tryz.prog G 54 [Hd [.sl (IT H9 (Hk s)),.sl (ss s),.sl (u7 s),.sl (IT Hx (Hh s)),.sl (tV s)]] λ(rs:IU D)=>∃(n:Int),rs=[IP .i64 n]/\((n != 0)=true->[IP .i64 n]=cu s w)/\((n != 0)=false->(TN w s=true->[IP .i64 40]=cu s w)/\(TN w s=false->∃(x0:Nat),Xu x0 w s/\((h45q12/\IA 1 0=IA 1 0/\(0:Int)=(x0:Int)/\IN)/\TM s w)/\∀(x:Nat),Xu x w s->(decide ((x:Int)<(↑(IR (IT H6 w)):Int))=true->((0:Int)<=(x:Int)/\(IT H6 w)[IJ (x:Int)]? = some (zr [HX .i64,HX .i64] (IT H6 w) (IJ (x:Int))))/\(TL w x s=true->[IP .i64 40]=cu s w)/\(TL w x s=false->∃(y:Nat),Xu y w s/\IR w - y<IR w - x/\(h45q12/\IA 1 0=IA 1 0/\Hr .i64 ((x:Int)+1)=(y:Int)/\IN)/\TM s w))/\(decide ((x:Int)<(↑(IR (IT H6 w)):Int))=false->[IP .i64 0]=cu s w))))
 ·kernel_rfl
 delta ss kV h45q12 ry u7 tV Xy nE wW nD ud kU Xx cw fb Xw kT Xv cu TN Xu TM TL Xt Xs;refine h54.use ⟨_,rfl,λh=>?_,λh=>⟨λh2=>?_,λh2=>⟨0,⟨by omega,rfl⟩,⟨⟨rfl,rfl,rfl,trivial⟩,⟨rfl,rfl,rfl,rfl,rfl,trivial⟩,⟨rfl,trivial⟩,trivial⟩,λx hx=>⟨λhlt=>?_,λhge=>?_⟩⟩⟩⟩
 ·rw[y4,Hv (by simpa using h)]
 ·rw[H4,H4]at h2;have h0:yI s=0:=by simpa using h
  rw[y4,IE (by simp[h0]),Hv];left;intro e;rw[e]at h2;simp at h2
 ·simp only[H4,HS]at hlt;obtain⟨z,hz,hm⟩:=zw (l:=w) (x:=x) (by omega);have ei (n:Int):Hf (IB (some (IP .i64 n)) default)=n:=rfl;rw[HF,vh hz,xZ hz,xY hz,ei,ei,H4,H4];have hc:(bif bif bif decide (z.slot<0)then true else decide (z.slot>=(s.slots.length:Int))then true else decide (z.room<0)then true else decide (z.room>=(s.rooms.length:Int))) = !xX s z:=by simp only[zH,xX];rw[Ge];simp
  rw[hc];refine⟨⟨by omega,vg hz⟩,λh3=>?_,λh3=>⟨x+1,⟨by omega,po hz hx.2 (by simpa using h3)⟩,by omega,⟨rfl,rfl,by rw[zx (by omega) (by omega)];rfl,trivial⟩,⟨rfl,rfl,rfl,rfl,rfl,trivial⟩,⟨rfl,trivial⟩,trivial⟩⟩;have h0:yI s=0:=by simpa using h
  rw[y4,IE (by simp[h0]),Hv (.inr (kW hm (by simpa using h3)))]
 ·simp only[H4,HH]at hge;have h0:yI s=0:=by simpa using h
  have h4:=hx.2;rw[Gs (by omega)]at h4;rw[H4,H4]at h2;have h5:w.length=s.lessons.length:=by
   have:(w.length:Int)=s.lessons.length:=by simpa using h2
   omega
  rw[y4,IE (by simp[h0]),IE];rw[h4];simp[h5]
def diffL:Nat->IU Pl->IU Pl->IU Mv
 |i,a::r,b::q=>if a≠b then⟨i,b.slot,b.room⟩::diffL (i+1) r q else diffL (i+1) r q
 |_,_,_=>[]
def wm (a b:IU Pl) (x:Nat):IU Mv:=diffL 0 (a.take x) (b.take x)
theorem diffL_snoc:∀(x i:Nat) (a b:IU Pl) (y z:Pl),a[x]? = some y->b[x]? = some z->diffL i (a.take (x+1)) (b.take (x+1))=diffL i (a.take x) (b.take x)++(if y≠z then [⟨i+x,z.slot,z.room⟩]else [])
 |_,_,[],_,_,_,h,_=>by simp at h
 |_,_,_::_,[],_,_,_,h=>by simp at h
 |0,i,a::r,b::q,y,z,h1,h2=>by simp at h1 h2;subst h1;subst h2;simp[diffL]
 |x+1,i,a::r,b::q,y,z,h1,h2=>by
  have ih:=diffL_snoc x (i+1) r q y z (by simpa using h1) (by simpa using h2);simp only[FM]at ih ⊢;simp only[diffL];rw[ih];have e:((i+1:Nat):Int)+(x:Int)=(i:Int)+((x+1:Nat):Int):=by omega
  rw[e];split<;>rfl
theorem wG {a b:IU Pl}{x:Nat}{y z:Pl}(h1:a[x]? = some y) (h2:b[x]? = some z):wm a b (x+1)=wm a b x++(if y≠z then [⟨x,z.slot,z.room⟩]else []):=by have:=diffL_snoc x 0 a b y z h1 h2;unfold wm;rw[this];simp
theorem diffL_len:∀(i:Nat) (a b:IU Pl),(diffL i a b).length<=b.length
 |_,[],_=>by simp[diffL]
 |_,_::_,[]=>by simp[diffL]
 |i,a::r,b::q=>by have:=diffL_len (i+1) r q;simp only[diffL];split<;>simp<;>omega
theorem ct (a b:IU Pl) (x:Nat):(wm a b x).length<=x:=by have:=diffL_len 0 (a.take x) (b.take x);unfold wm;simp at this ⊢;omega
def PZ (a:IU Pl) (b:IU Pl):IU D:=[II (IT Dg (if IR a=IR b then diffL 0 a b else [])),.int .i64 (if IR a=IR b then 0 else 1)]
def nn (a:IU Pl) (b:IU Pl) (c:Nat):IU D:=IT Dg (wm a b c)
def cr (a:IU Pl) (b:IU Pl) (c:Nat):Nat:=IR (wm a b c)
def fa (a:IU Pl):Prop:=IT H6 a=IT H6 a/\IN
def TK (a:Nat) (b:IU Pl):Prop:=(0:Int)<=(a:Int)/\(IT H6 b)[IJ (a:Int)]? = some (zr [HX .i64,HX .i64] (IT H6 b) (IJ (a:Int)))
def PY (a:IU Pl) (b:Nat):IU D:=G6 [Hd (G6 [(λ(x:Sh×Nat)=>match x with|(sh,j)=>GP sh (IB (z1 (IT H6 a) (IJ (b:Int)) j) default)) (HX .i64,0+1),(λ(x:Sh×Nat)=>match x with|(sh,j)=>GP sh (IB (z1 (IT H6 a) (IJ (b:Int)) j) default)) (HX .i64,0),.int .i64 (b:Int)])]
def PX (a:Nat) (b:Nat):Prop:=Hr .i64 ((a:Int)+1)=(b:Int)/\IN
theorem h55 (a b:IU Pl) (hb:b.length<1099511627776):IK Tryz.prog G 55 [xl a,xl b] (· = [.sl ((if a.length=b.length then diffL 0 a b else []).map Dg),.int .i64 (if a.length=b.length then 0 else 1)]):=by
 rw[zO,zO];refine zu (LL [(5,ze (α:=Nat) Tryz.prog G L0 0 (z8 (z6 Tryz.f55) 0) [2,3] (λx=>x<=b.length) (λx=>b.length - x) (λx=>[(6,.vec 2 ((wm a b x).map Dg)),(7,.d (.int .i64 x))]) (λH x=>[H.getD 0 .dead,H.getD 1 .dead,.vec (wm a b x).length 3]))]) Tryz.func55 ⟨_,rfl⟩ (zt zz) ?_;apply @z7 _ ((((↑(IR (IT H6 a)):Int) != (↑(IR (IT H6 b)):Int))=true->[II [],.int .i64 1]=PZ a b)/\(((↑(IR (IT H6 a)):Int) != (↑(IR (IT H6 b)):Int))=false->∃(x0:Nat),x0<=IR b/\((h45q12/\IA 1 0=IA 1 0/\([]=nn a b x0/\IR ([]:IU D)<=cr a b x0)/\(0:Int)=(x0:Int)/\IN)/\fa a/\fa b/\IN)/\∀(x:Nat),x<=IR b->(decide ((x:Int)<(↑(IR (IT H6 a)):Int))=true->TK x a/\TK x b/\((!(λ(r:Bool)=>Hf (IB (z1 (IT H6 a) (IJ (x:Int)) 0) default)==Hf (IB (z1 (IT H6 b) (IJ (x:Int)) 0) default)&&r) ((λ(r:Bool)=>Hf (IB (z1 (IT H6 a) (IJ (x:Int)) (0+1)) default)==Hf (IB (z1 (IT H6 b) (IJ (x:Int)) (0+1)) default)&&r) true))=true->TK x b/\(cr a b x=IR (nn a b x)/\3=3/\FA (nn a b x) [Hd [.int .i64 (x:Int),.int .i64 (Xt b x),.int .i64 (Xs b x)]] (nat_lit 3) (nat_lit 24))/\∃(y:Nat),y<=IR b/\IR b - y<IR b - x/\(h45q12/\IA 1 0=IA 1 0/\nn a b x++PY b x=nn a b y/\PX x y)/\fa a/\fa b/\IR (nn a b x)+IR (PY b x)=cr a b y/\IN)/\((!(λ(r:Bool)=>Hf (IB (z1 (IT H6 a) (IJ (x:Int)) 0) default)==Hf (IB (z1 (IT H6 b) (IJ (x:Int)) 0) default)&&r) ((λ(r:Bool)=>Hf (IB (z1 (IT H6 a) (IJ (x:Int)) (0+1)) default)==Hf (IB (z1 (IT H6 b) (IJ (↑x: Int)) (0+1)) default)&&r) true))=false->∃(y:Nat),y<=IR b/\IR b - y<IR b - x/\(h45q12/\IA 1 0=IA 1 0/\nn a b x=nn a b y/\PX x y)/\fa a/\fa b/\cr a b x=cr a b y/\IN))/\(decide ((x:Int)<(↑(IR (IT H6 a)):Int))=false->[II (nn a b x),.int .i64 0]=PZ a b)))
 ·kernel_rfl
 delta PZ h45q12 kV ry ss u7 tV Xy nE wW nD ud kU Xx cw fb Xw kT Xv nn cr fa TK Xt cu TN Xu TM TL Xs PY PX;refine⟨λh=>?_,λh=>?_⟩
 ·rw[H4,H4]at h;have hne:a.length≠b.length:=λe=>by rw[e]at h;simp at h
  rw[IE hne,IE hne];rfl
 ·rw[H4,H4]at h;have he:a.length=b.length:=by
   have:(a.length:Int)=b.length:=by simpa using h
   omega
  refine⟨0,by omega,⟨⟨rfl,rfl,⟨rfl,by simp⟩,rfl,trivial⟩,⟨rfl,trivial⟩,⟨rfl,trivial⟩,trivial⟩,λx hx=>⟨λhlt=>?_,λhge=>?_⟩⟩
  ·simp only[H4,HS]at hlt;obtain⟨y,hy,hym⟩:=zw (l:=a) (x:=x) (by omega);obtain⟨z,hz,hzm⟩:=zw (l:=b) (x:=x) (by omega);have ei (n:Int):Hf (IB (some (IP .i64 n)) default)=n:=rfl;have hlen:=ct a b x;simp only[HF,vh hy,vh hz,xZ hy,xY hy,xZ hz,xY hz,ei];have hc:(!(y.slot==z.slot&&(y.room==z.room&&true)))=decide (y≠z):=by rw[Ge];cases y;cases z;simp
   rw[hc];have hg1:0<=(x:Int)/\(IT H6 a)[x]? = some y.d:=⟨by omega,vg hy⟩;have hg2:0<=(x:Int)/\(IT H6 b)[x]? = some z.d:=⟨by omega,vg hz⟩;refine⟨hg1,hg2,λh3=>⟨hg2,⟨by simp,by trivial,?_⟩,x+1,by omega,by omega,⟨by trivial,by trivial,?_,by rw[zx (by omega) (by omega)];rfl,trivial⟩,⟨by trivial,trivial⟩,⟨by trivial,trivial⟩,?_,trivial⟩,λh3=>⟨x+1,by omega,by omega,⟨by trivial,by trivial,?_,by rw[zx (by omega) (by omega)];rfl,trivial⟩,⟨by trivial,trivial⟩,⟨by trivial,trivial⟩,?_,trivial⟩⟩
   ·have:=X5 (wm a b x);unfold yH at this;refine⟨by rw[Fb,this];rfl,?_⟩;simp;omega
   ·rw[wG hy hz,Hv (G0 h3),GI];rfl
   ·rw[wG hy hz,Hv (G0 h3)];simp
   ·rw[wG hy hz,IE (of_decide_eq_false h3),D5]
   ·rw[wG hy hz,IE (of_decide_eq_false h3),D5]
  ·simp only[H4,HH]at hge;rw[Hv he,Hv he];unfold wm;rw[Gs (by omega),Gs (by omega)]
end
def t8 (S R:Nat):IU Pl:=(Gp (S*R)).map λn=>⟨((n / R:Nat):Int),((n % R:Nat):Int)⟩
def Xr (P:IU Pl) (w:IU Pl):IU (IU Pl):=P.map λp=>w++[p]
def yR (P:IU Pl):Nat->IU (IU Pl)
 |0=>[[]]
 |n+1=>(yR P n).flatMap (Xr P)
def Sc.pls (s:Sc):IU Pl:=t8 s.slots.length s.rooms.length
def pn (s:Sc) (most:Int):Bool:=((Gp s.lessons.length).any λy=>decide (((yR s.pls y).length:Int)>most.tdiv (s.slots.length*s.rooms.length:Nat)))||decide (((yR s.pls s.lessons.length).length:Int)>most)
def y5 (s:Sc) (most:Int):IU (IU Pl)×Int :=if yI s≠0 then([],yI s)else if most<0 then([],1)else if pn s most then([],2)else(yR s.pls s.lessons.length,0)
theorem TJ (S R:Nat):(t8 S R).length=S*R:=by simp[t8]
theorem Xq (P w:IU Pl):(Xr P w).length=P.length:=by simp[Xr]
theorem Xp (P:IU Pl):∀n,(yR P n).length=P.length ^ n
 |0=>rfl
 |n+1=>by
  have ih:=Xp P n;have h:∀l:IU (IU Pl),(l.flatMap (Xr P)).length=l.length*P.length:=by
   intro l;induction l with
   |nil=>simp
   |cons a r ih=>rw[IU.flatMap_cons,FG,ih,Xq,F2,FC];omega
  rw[yR,h,ih,Nat.pow_succ]
theorem fZ (P:IU Pl):∀n,∀w∈yR P n,w.length=n
 |0,w,h=>by simp[yR]at h;subst h;rfl
 |n+1,w,h=>by rw[yR,IU.mem_flatMap]at h;obtain⟨v,hv,hw⟩:=h;unfold Xr at hw;obtain⟨p,_,rfl⟩:=Gd.1 hw;simp[fZ P n v hv]
def vc (P:IU Pl) (i k:Nat):IU (IU Pl):=((yR P i).take k).flatMap (Xr P)
def tU (P:IU Pl) (i k n:Nat):IU (IU Pl):=vc P i k++(P.take n).map λp=>((yR P i)[k]?).getD []++[p]
theorem nC {s:Sc}(h:yI s=0):vP s=true/\1<=s.slots.length/\s.slots.length<=50/\1<=s.rooms.length/\s.rooms.length<=32/\s.people.length<=64/\s.groups.length<=64/\s.lessons.length<=64:=by
 unfold yI at h;split at h
 ·cases h
 ·rename_i hm;have hm:vP s=true:=by simpa using hm
  split at h
  ·cases h
  ·rename_i hl;have h2:=hm;unfold vP uM at h2;simp only[HC,Fe,IU.isEmpty_eq_false_iff]at h2;have e1:=Bb.2 h2.1.2.2;have e2:=Bb.2 h2.2;exact⟨hm,e1,by omega,e2,by omega,by omega,by omega,by omega⟩
theorem fY {P:IU Pl}{i k:Nat}{w:IU Pl}(h:(yR P i)[k]? = some w):vc P i (k+1)=vc P i k++Xr P w:=by unfold vc;rw[GN,h,IU.flatMap_append];simp
theorem fX (P:IU Pl) (i k:Nat):tU P i k 0=vc P i k:=by simp[tU]
theorem V9 {P:IU Pl}{i k n:Nat}{w:IU Pl}(h:(yR P i)[k]? = some w) (hn:P.length<=n):tU P i k n=vc P i (k+1):=by rw[fY h,tU,Gs hn,h];rfl
theorem fW {P:IU Pl}{i k n:Nat}{w:IU Pl}{p:Pl}(h:(yR P i)[k]? = some w) (hp:P[n]? = some p):tU P i k (n+1)=tU P i k n++[w++[p]]:=by unfold tU;rw[GN,hp,h,GI];simp
theorem Vz {P:IU Pl}{i k:Nat}(h:(yR P i).length<=k):vc P i k=yR P (i+1):=by unfold vc;rw[Gs h,yR]
theorem cq (P:IU Pl) (i:Nat):∀k,(vc P i k).length<=k*P.length
 |0=>by simp[vc]
 |k+1=>by
  have ih:=cq P i k;cases h:(yR P i)[k]? with
  |none =>
   have:vc P i (k+1)=vc P i k:=by unfold vc;rw[GN,h];simp
   rw[this,FC];omega
  |some w =>
   rw[fY h,FG,Xq,FC];omega
theorem Rn (P:IU Pl) (i k n:Nat):(tU P i k n).length<=(k+1)*P.length:=by have h:=cq P i k;unfold tU;rw[FG,H4,FS,FC];omega
theorem NV {S R n:Nat}(h:n<S*R):(t8 S R)[n]? = some ⟨((n / R:Nat):Int),((n % R:Nat):Int)⟩:=by unfold t8;rw[G5,IU.getElem?_range h];rfl
theorem TI {l:IU (IU Pl)}{i:Nat}{w:IU Pl}(h:l[i]? = some w):z1 (l.map xl) i 0=some (.sl (w.map H6)):=by simp[z1,h,xl,Gq]
theorem fV {l:IU (IU Pl)}{i:Nat}{w:IU Pl}(h:l[i]? = some w):zr [.sl] (l.map xl) i=xl w:=by simp only[zr,Ew,TI h];rfl
theorem fU {l:IU (IU Pl)}{i:Nat}{w:IU Pl}(h:l[i]? = some w):(l.map xl)[i]? = some (xl w):=by rw[G5,h];rfl
theorem Xo (l:IU (IU Pl)):yH (l.map xl) 1=true:=by unfold yH;rw[G3];intro d hd;obtain⟨t,_,rfl⟩:=Gd.1 hd;rfl
section
variable {G:Nat->IQ (IU D)}
def fT (a:Sc) (b:Int):IU D:=[II (IT xl (Hw (y5 a b))),.int .i64 (HL (y5 a b))]
def nA (a:Sc) (b:Nat):Nat:=IR (yR (Sc.pls a) b)
def aj (a:Nat) (b:Sc) (c:Int):Prop:=a<=IR (Hn b)/\(Fk (Gp a) λ(y:Nat)=>decide ((↑(nA b y):Int)>A0 c (↑(IR (Hk b)*IR (Hg b)):Int)))=false
def h24q13:Prop:=IA 0 0=IA 0 0
def vv (a:Sc) (b:Nat):IU D:=IT xl (yR (Sc.pls a) b)
def Xn (a:Sc):Prop:=IT H9 (Hk a)=IT H9 (Hk a)/\IT H8 (Hg a)=IT H8 (Hg a)/\IT Hy (Hi a)=IT Hy (Hi a)/\IT Hx (Hh a)=IT Hx (Hh a)/\IT H7 (Hn a)=IT H7 (Hn a)/\IN
def TH (a:Sc):Prop:=Xn a/\IN
def nl (a:Sc):Int:=(↑(IR (IT H8 (Hg a))):Int)
def ru (a:Sc):Int:=Hr .i64 ((↑(IR (IT H9 (Hk a))):Int)*nl a)
def Vy (a:Sc) (b:Nat) (c:Int):Bool:=decide ((↑(IR (vv a b)):Int)>Hr .i64 (A0 c (ru a)))
def Vx (a:Sc) (b:Int):Prop:=[II [],.int .i64 2]=fT a b
def m0 (a:Nat):Prop:=(a:Int)=(a:Int)
def Xm (a:Sc) (b:Nat) (c:Nat):IU D:=IT xl (vc (Sc.pls a) b c)
def pm (a:Sc) (b:Nat) (c:Nat) (d:Nat):IU D:=IT xl (tU (Sc.pls a) b c d)
def Xl (a:Sc) (b:Nat) (c:Nat) (d:Nat):Nat:=IR (tU (Sc.pls a) b c d)
def ai (a:Sc) (b:Nat) (c:Nat):IU D:=Gl (IB (z1 (vv a b) (IJ (c:Int)) 0) default)
def TG (a:Sc) (b:Nat) (c:Nat):IU D:=G6 ([]:IU D)++ai a b c
def ah (a:Sc) (b:Nat) (c:Nat) (d:Nat):IU D:=[II (TG a b c++G6 [Hd (G6 [Hw (IP .i64 (Int.tmod (d:Int) (nl a)),nl a≠0),Hw (IP .i64 (Hr .i64 (A0 (d:Int) (nl a))),nl a≠0)])])]
def TF (a:Nat) (b:Nat):Prop:=Hr .i64 ((a:Int)+1)=(b:Int)/\IN
theorem h24 (s:Sc) (most:Int) (hs:s.Fits) (hm:most<=1048576):IK Tryz.prog G 24 [s.d,.int .i64 most] (· = [.sl ((y5 s most).1.map xl),.int .i64 (y5 s most).2]):=by
 have h54:=h54 (G:=G) s hs;rw[zj]at *;refine zu (LL [(8,xH (α:=Nat) Tryz.prog G (λi=>LL [(15,xH (α:=Nat) Tryz.prog G (λk=>LL [(18,ze (α:=Nat) Tryz.prog G L0 0 (z8 (z8 (z8 (z6 Tryz.f24) 0) 0) 0) [1,2,7,8,9,11] (λn=>n<=s.pls.length) (λn=>s.pls.length - n) (λn=>[(10,.vec 1 ((tU s.pls i k n).map xl)),(12,.d (.int .i64 n))]) (λH n=>[H.getD 0 .dead,.vec (tU s.pls i k n).length 1]))]) 0 (z8 (z8 (z6 Tryz.f24) 0) 0) [1,2,7,8,9] (λk=>k<=(yR s.pls i).length) (λk=>(yR s.pls i).length - k) (λk=>[(10,.vec 1 ((vc s.pls i k).map xl)),(11,.d (.int .i64 k))]) (λH k=>[H.getD 0 .dead,.vec (vc s.pls i k).length 1]))]) 0 (z8 (z6 Tryz.f24) 0) [1,2] (λx=>x<=s.lessons.length/\((Gp x).any λy=>decide (((yR s.pls y).length:Int)>most.tdiv (s.slots.length*s.rooms.length:Nat)))=false) (λx=>s.lessons.length - x) (λx=>[(7,.d (.sl ((yR s.pls x).map xl))),(8,.d (.int .i64 x))]) (λH _=>[H.getD 0 .dead]))]) Tryz.func24 ⟨_,rfl⟩ (zt (zA mixed (λ_=>zt (zA mixed (λ_=>zt zz))))) ?_;apply @z7 _ (IK Tryz.prog G 54 [Hd [.sl (IT H9 (Hk s)),.sl (IT H8 (Hg s)),.sl (IT Hy (Hi s)),.sl (IT Hx (Hh s)),.sl (IT H7 (Hn s))]] λ(rs:IU D)=>∃(n:Int),rs=[IP .i64 n]/\((n != 0)=true->[II [],.int .i64 n]=fT s most)/\((n != 0)=false->(decide (most<0)=true->[II [],.int .i64 1]=fT s most)/\(decide (most<0)=false->∃(x0:Nat),aj x0 s most/\((most=most/\h24q13/\[Hd [.sl []]]=vv s x0/\(0:Int)=(x0:Int)/\IN)/\TH s)/\∀(x:Nat),aj x s most->(decide ((x:Int)<(↑(IR (IT H7 (Hn s))):Int))=true->(ru s=0->HD)/\(Vy s x most=true->Vx s most)/\(Vy s x most=false->∃(x0:Nat),x0<=nA s x/\((most=most/\h24q13/\vv s x=vv s x/\m0 x/\ru s=ru s/\([]=Xm s x x0/\IR ([]:IU D)<=IR (vc (Sc.pls s) x x0))/\(0:Int)=(x0:Int)/\IN)/\TH s)/\∀(x_1:Nat),x_1<=nA s x->(decide ((x_1:Int)<(↑(IR (vv s x)):Int))=true->∃(x0:Nat),x0<=IR (Sc.pls s)/\((most=most/\h24q13/\vv s x=vv s x/\m0 x/\ru s=ru s/\Xm s x x_1=pm s x x_1 x0/\m0 x_1/\(0:Int)=(x0:Int)/\IN)/\Xn s/\IR (vc (Sc.pls s) x x_1)=Xl s x x_1 x0/\IN)/\∀(x_2:Nat),x_2<=IR (Sc.pls s)->(decide ((x_2:Int)<ru s)=true->(nl s=0->HD)/\(nl s=0->HD)/\((0:Int)<=(x_1:Int)/\(vv s x)[IJ (x_1:Int)]? = some (zr [HK] (vv s x) (IJ (x_1:Int))))/\FA [] (ai s x x_1) (nat_lit 2) (nat_lit 16)/\(IR (G6 ([]:IU D))+IR (ai s x x_1)=IR (TG s x x_1)/\2=2/\FA (TG s x x_1) [Hd [.int .i64 (Hr .i64 (A0 (x_2:Int) (nl s))),.int .i64 (Int.tmod (x_2:Int) (nl s))]] (nat_lit 2) (nat_lit 16))/\(Xl s x x_1 x_2=IR (pm s x x_1 x_2)/\1=1/\FA (pm s x x_1 x_2) [Hd (ah s x x_1 x_2)] (nat_lit 1) (nat_lit 24))/\∃(y:Nat),y<=IR (Sc.pls s)/\IR (Sc.pls s) - y<IR (Sc.pls s) - x_2/\(most=most/\h24q13/\vv s x=vv s x/\m0 x/\ru s=ru s/\pm s x x_1 x_2++G6 [Hd (G6 (ah s x x_1 x_2))]=pm s x x_1 y/\m0 x_1/\TF x_2 y)/\Xn s/\IR (pm s x x_1 x_2)+IR (G6 [Hd (G6 (ah s x x_1 x_2))])=Xl s x x_1 y/\IN)/\(decide ((x_2:Int)<ru s)=false->∃(y:Nat),y<=nA s x/\nA s x - y<nA s x - x_1/\(most=most/\h24q13/\vv s x=vv s x/\m0 x/\ru s=ru s/\pm s x x_1 x_2=Xm s x y/\TF x_1 y)/\Xn s/\Xl s x x_1 x_2=IR (vc (Sc.pls s) x y)/\IN))/\(decide ((x_1:Int)<(↑(IR (vv s x)):Int))=false->∃(y:Nat),aj y s most/\IR (Hn s) - y<IR (Hn s) - x/\(most=most/\h24q13/\Xm s x x_1=vv s y/\TF x y)/\TH s)))/\(decide ((x:Int)<(↑(IR (IT H7 (Hn s))):Int))=false->(decide ((↑(IR (vv s x)):Int)>most)=true->Vx s most)/\(decide ((↑(IR (vv s x)):Int)>most)=false->[II (vv s x),.int .i64 0]=fT s most)))))
 ·kernel_rfl
 delta fT aj nA h24q13 vv TH Xn ru nl Vy Vx m0 Xm pm Xl ai TG ah TF;refine h54.use ⟨_,rfl,λh=>?_,λh=>⟨λh2=>?_,λh2=>?_⟩⟩
 ·rw[y5,Hv (by simpa using h)];rfl
 ·have h0:yI s=0:=by simpa using h
  rw[y5,IE (by simp[h0]),Hv (G0 h2)];rfl
 have h0:yI s=0:=by simpa using h
 have hm0:0<=most:=by have:=of_decide_eq_false h2;omega
 obtain⟨_,c1,c2,c3,c4,_,_,c5⟩:=nC h0;have hN1:1<=s.slots.length*s.rooms.length:=B4 c1 c3;have hN2:s.slots.length*s.rooms.length<=1600:=B4 c2 c4;have hw:Ho.wrap (((IT H9 s.slots).length:Int)*((IT H8 s.rooms).length:Int))=((s.slots.length*s.rooms.length:Nat):Int):=by rw[H4,H4,←Int.natCast_mul,zx (by omega) (by omega)]
 have hP:s.pls.length=s.slots.length*s.rooms.length:=TJ _ _;have hget:∀n,n<s.slots.length*s.rooms.length->s.pls[n]? = some ⟨((n / s.rooms.length:Nat):Int),((n % s.rooms.length:Nat):Int)⟩:=λn hn=>NV hn;have hall:y5 s most=if pn s most then([],2)else(yR s.pls s.lessons.length,0):=by rw[y5,IE (by simp[h0]),IE (by omega)]
 have hbad:pn s most=(((Gp s.lessons.length).any λy=>decide (((yR s.pls y).length:Int)>most.tdiv (s.slots.length*s.rooms.length:Nat)))||decide (((yR s.pls s.lessons.length).length:Int)>most)):=rfl;rw[hw];clear hw;generalize s.slots.length*s.rooms.length=N at *;generalize s.pls=P at *;have hq:0<=most.tdiv N/\most.tdiv N<=most:=by rw[Int.tdiv_eq_ediv_of_nonneg hm0];exact⟨Int.ediv_nonneg hm0 (by omega),Int.ediv_le_self _ hm0⟩
 rw[zx (n:=most.tdiv N) (by omega) (by omega),hall];refine⟨0,⟨by omega,rfl⟩,⟨⟨rfl,rfl,rfl,rfl,trivial⟩,⟨rfl,rfl,rfl,rfl,rfl,trivial⟩,trivial⟩,λx hx=>⟨λhlt=>?_,λhge=>?_⟩⟩
 ·simp only[H4,HS]at hlt;refine⟨λh=>by omega,λh3=>?_,λh3=>⟨0,by omega,⟨⟨rfl,rfl,rfl,rfl,rfl,⟨rfl,by simp⟩,rfl,trivial⟩,⟨rfl,rfl,rfl,rfl,rfl,trivial⟩,trivial⟩,λk hk=>⟨λhkl=>?_,λhkg=>?_⟩⟩⟩
  ·rw[H4]at h3;rw[Hv]
   ·rfl
   ·rw[hbad,F9];left;rw[Dr];exact⟨x,Fz.2 (by omega),h3⟩
  ·rw[H4]at h3;have hsmall:((yR P x).length:Int)<=most.tdiv N:=by have:=of_decide_eq_false h3;omega
   simp only[H4,HS]at hkl;obtain⟨w,hwk,hwm⟩:=zw (l:=yR P x) (x:=k) (by omega);have hwl:=fZ P x w hwm;refine⟨0,by omega,⟨⟨rfl,rfl,rfl,rfl,rfl,by rw[fX],rfl,rfl,trivial⟩,⟨rfl,rfl,rfl,rfl,rfl,trivial⟩,by rw[fX],trivial⟩,λn hn=>⟨λhnl=>?_,λhng=>?_⟩⟩
   ·simp only[HS]at hnl;have hn':n<N:=by omega
    have hpn:=hget n hn';have hml:=Rn P x k n;have hbig:(tU P x k n).length<=1048577*1600:=by refine Nat.le_trans hml (B4 (by omega) (by omega))
    rw[HF,fV hwk,TI hwk];have el:Gl (IB (some (II (w.map H6))) default)=w.map H6:=rfl;have hrl:(IT H8 s.rooms).length=s.rooms.length:=by simp
    rw[el,hrl];have ed:Ho.wrap ((n:Int).tdiv (s.rooms.length:Int))=((n / s.rooms.length:Nat):Int):=by rw[←Int.ofNat_tdiv];have hq2:=Nat.div_le_self n s.rooms.length;revert hq2;generalize n / s.rooms.length=q;intro hq2;exact zx (by omega) (by omega)
    have em:(n:Int).tmod (s.rooms.length:Int)=((n % s.rooms.length:Nat):Int):=(Int.ofNat_tmod _ _).symm;rw[ed,em];generalize hz:(⟨((n / s.rooms.length:Nat):Int),((n % s.rooms.length:Nat):Int)⟩:Pl)=z at hpn;have hzs:z.slot=((n / s.rooms.length:Nat):Int):=by rw[←hz]
    have hzr:z.room=((n % s.rooms.length:Nat):Int):=by rw[←hz]
    rw[←hzs,←hzr];have hF:=ft (w++[z]);have hF0:=ft w;unfold yH at hF hF0;refine⟨λh=>by omega,λh=>by omega,⟨by omega,fU hwk⟩,⟨by simpa using hF0,by simp;omega⟩,⟨by simp,rfl,by simpa[H6]using hF,by simp;omega⟩,⟨by simp,rfl,?_,by simp;omega⟩,n+1,by omega,by omega,⟨rfl,rfl,rfl,rfl,rfl,?_,rfl,by rw[zx (by omega) (by omega)];rfl,trivial⟩,⟨rfl,rfl,rfl,rfl,rfl,trivial⟩,?_,trivial⟩
    ·have:=Xo (tU P x k n);unfold yH at this;rw[Fb,this];rfl
    ·rw[fW hwk hpn,GI];simp[xl,H6]
    ·rw[fW hwk hpn];simp
   ·simp only[HH]at hng;have hfull:=V9 (n:=n) hwk (by omega);refine⟨k+1,by omega,by omega,⟨rfl,rfl,rfl,rfl,rfl,by rw[hfull],by rw[zx (by omega) (by omega)];rfl,trivial⟩,⟨rfl,rfl,rfl,rfl,rfl,trivial⟩,by rw[hfull],trivial⟩
  ·simp only[H4,HH]at hkg;rw[H4]at h3;refine⟨x+1,⟨by omega,?_⟩,by omega,⟨rfl,rfl,by rw[Vz (by omega)],by rw[zx (by omega) (by omega)];rfl,trivial⟩,⟨rfl,rfl,rfl,rfl,rfl,trivial⟩,trivial⟩;rw[BP,B2,hx.2];simpa using h3
 ·simp only[H4,HH]at hge;have hxe:x=s.lessons.length:=by omega
  rw[H4,hbad,←hxe,hx.2,FD];refine⟨λh3=>by rw[Hv h3];rfl,λh3=>by rw[IE (by rw[h3];decide)]⟩
end
end Go.Fo
