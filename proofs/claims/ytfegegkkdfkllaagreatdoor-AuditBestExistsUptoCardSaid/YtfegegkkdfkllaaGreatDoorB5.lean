/- Joined texts: the walk by computed conditions, the contracts of the functions, the plain laws. -/
import Derived.Test.YtfegegkkdfkllaaGreatDoorB1
import Derived.Test.YtfegegkkdfkllaaGreatDoorB2
import Derived.Test.YtfegegkkdfkllaaGreatDoorB3
import Derived.Test.YtfegegkkdfkllaaGreatDoorB4
import Derived.Test.YtfegegkkdfkllaaGreatDoorRows
import Derived.ChangeArms
import Derived.Deep.Slices
import Derived.LaidHandle
import Derived.LaidMore
import Derived.WideKeyElems2
import Derived.WideKeyArgs2
import Derived.MakeChecks
import Derived.FnData
import Derived.OpenShut
import Derived.Carry
import Derived.WideShapes
import Derived.RowKit
import Derived.ChangeAgain
set_option linter.unusedVariables false
set_option linter.unusedSimpArgs false
set_option maxRecDepth 100000
set_option maxHeartbeats 0
noncomputable section
open And renaming intro->BJ
open Array renaming getD_eq_getD_getElem?->Lk,getElem?_toList->KA,length_toList->LI,toList->Mm
open ByteArray renaming data->Mn,mk->Mi,size->Is
open Go renaming Code->Np,DataW->Nk,IntKind->OA,Lit->KK,MemPlace->MB,Program->Ng,World->N4
open Go.DataW renaming Trod->Bg,TrodAll->Eg,Whole->Bo,trod->Mr,trod_array->C8,trod_int->Kf,trod_string->Jr,trod_struct->KR
open Go.DataW.agg renaming injEq->Ct
open Go.DataW.lit renaming injEq->Af
open Go.DataW.map renaming injEq->Cu
open Go.Fo renaming Maps->Mk
open Go.Fo.Bd renaming d->N3,mk->Fe
open Go.Fo.Ev renaming d->NM
open Go.Fo.Fm renaming bs->NJ,d->NX,kind->NU,l->Nt,n->NA,name->NG,ts->NH
open Go.Fo.Gr renaming d->Ny
open Go.Fo.Le renaming d->N8
open Go.Fo.Maps renaming ak->IA
open Go.Fo.Pe renaming d->N9
open Go.Fo.Pl renaming d->Nr
open Go.Fo.Pn renaming frozen->ML,mk->I3,rules->Lu,sc->NT
open Go.Fo.Rm renaming d->N6
open Go.Fo.Ru renaming body->M9,d->Na,each->MF,hard->LM,name->Kx,weight->LD
open Go.Fo.Sc renaming groups->Nb,lessons->Nj,people->Nd,rooms->Nh,slots->Ni
open Go.Fo.Sl renaming d->Nx,mk->H6
open Go.Fo.Tm renaming d->Nc,kind->MA,mk->KC,n->Ks,name->MI
open Go.IntKind renaming wrap->Nl
open Go.Sx renaming PCall->Nn,PFn->OB
open Go.Sx.AV renaming clo->Ml,d->OF,msl->MP,ptr->N5
open Go.Sx.Box renaming cells->Ns,map->Kw
open Go.Sx.D renaming agg->NY,bool->OD,fn->MN,int->OH,sl->OE,str->NZ,toInt->NO,toSl->MT,toStr->MJ
open Go.Sx.PFn renaming mono->Au
open Go.Sx.Sh renaming int->NP,norm->MK,sl->NB,str->NC
open Go.Sx.z8 renaming cons->M8,nil->Mh
open Go.Value renaming formed->Gi,okWide->B0
open Go.World renaming cell?->Ko,cells?_some->DB,var?_cell->JK
open Int renaming toNat->N1,toNat_natCast->M1
open List renaming all->LV,all_eq_true->ND,append->IL,find?_cons->KP,find?_eq_none->FG,find?_some->Ey,getD->HX,getElem?_eq_getElem->LR,getElem?_eq_none->My,getElem?_map->M6,getElem?_take->Ld,length->OJ,length_cons->MO,length_map->Nv,length_nil->LZ,length_take->Kr,lookup_cons->G7,map->OM,map_append->Lq,map_cons->Mf,map_nil->LO,map_replicate->I9,mem_cons->MU,mem_filter->Lh,mem_map->Mj,mem_map_of_mem->DP,mem_of_find?_eq_some->HE,mem_of_getElem?->MX,not_mem_nil->Ja,replicate->M4,reverse->Mx,sum_cons->Jo,take->NW,take_of_length_le->MY,take_succ_cons->Lj,take_zero->K5
open List.cons renaming injEq->Ka
open Nat renaming le_of_ble_eq_true->MR,lt_or_ge->M0,zero_le->L6
open Option renaming bind_eq_some_iff->FX,getD->Nz,isSome->IR,map_eq_some_iff->KB,map_some->Ly,rec->GJ
open Option.some renaming inj->L9,injEq->K0
open Prod renaming fst->N7,snd->NV
open Prod.mk renaming injEq->J5
open UInt8 renaming toNat->GX
open _root_ renaming Array->OC,False->NL,List->ON,Option->OK,String->JQ,True->OG,Unit->Lf,absurd->No,congrArg->Mz,decide_eq_false_iff_not->M2,decide_eq_true_eq->NR,if_neg->N2,if_pos->Nf,of_decide_eq_true->M3
namespace Go.Fo
open Go Go.Sx Go.Proofs
def sH (s:Sc) (z:Ev):Bool:=decide (z.at_<0)||decide (z.at_>=zY s z.sort)
def cr (e:Ev):Bd:=⟨e.name,e.sort⟩
def SG (s:Sc) (env:ON Ev):Bool:=(jb (env.map cr) ⟨1,[],0⟩).2==0&& !(env.any λz=>sH s z)
def w6 (s:Sc) (w:ON Pl) (env:ON Ev) (f:Fm):Bool×Int :=if ye s w != 0 then(false,ye s w)else if !(SG s env)then(false,1)else if f.tyI (env.map cr) != 0 then(false,f.tyI (env.map cr))else if f.broadP s>1048576 then(false,2)else(f.sem s w env,0)
section
variable {G:Nat->OK (ON D)}
def wm (a:Sc):ON Box:=[Ns 28 [.d (.sl (OM Nx (Ni a))),.d (.sl (OM N6 (Nh a))),.d (.sl (OM N9 (Nd a))),.d (.sl (OM Ny (Nb a))),.d (.sl (OM N8 (Nj a)))]]
theorem O4 (s:Sc) (hs:s.Fits) (z:Ev):Nn Tryz.prog G 157 [.d z.d,.ptr 0 0] (Wc s) (λrs H'=>rs=[.bool (sH s z)]/\H'=Wc s):=by
 have h158:=h158 (G:=G) s z.sort hs;unfold NM;rw[zf]at *;refine zF Tryz.func157 rfl ⟨_,_,rfl,rfl⟩ ?_;apply @z7 _ (OB Tryz.prog G 158 [NY [.sl (OM Nx (Ni s)),.sl (OM N6 (Nh s)),.sl (OM N9 (Nd s)),.sl (OM Ny (Nb s)),.sl (OM N8 (Nj s))],.int .i64 (Ev.sort z)] λ(rs:ON D)=>∃(n:Int),rs=[OH .i64 n]/\[OD (bif decide (Ev.at_ z<0)then true else decide (Ev.at_ z>=n))]=[OD (sH s z)]/\wm s=wm s)
 ·kernel_rfl
 delta wm;refine h158.use ⟨_,rfl,?_,rfl⟩;simp only[yi];rfl
def qJ (a:Nat) (b:ON Ev) (c:Sc):Prop:=a<=OJ b/\yu (λ(z:Ev)=>sH c z) (ON.drop a b) a=yu (λ(z:Ev)=>sH c z) b 0
def qI (a:ON Ev) (b:Nat):D:=zk [NC,NP .i64,NP .i64] (OM NM a) (N1 (b:Int))
def sS (a:ON D) (b:ON D) (c:ON D) (d:ON D) (e:ON D):ON Box:=[Ns 28 [.d (.sl a),.d (.sl b),.d (.sl c),.d (.sl d),.d (.sl e)]]
theorem Qn (s:Sc) (hs:s.Fits) (l:ON Ev) (hl:l.length<4611686018427387904):Nn Tryz.prog G 168 [.d (.sl (l.map NM)),.clo 157 [] [.ptr 0 0]] (Wc s) (λrs H'=>rs=[.int .i64 (yu (λz=>sH s z) l 0)]/\H'=Wc s):=by
 refine zg (LL [(2,zT (α:=Nat) Tryz.prog G L0 1 (zz (z6 Tryz.f168) 0) [0,1,7] (λi=>i<=l.length/\yu (λz=>sH s z) (l.drop i) i=yu (λz=>sH s z) l 0) (λi=>l.length - i) (λi=>[(8,.d (.int .i64 i))]) (λH _=>H))]) Tryz.func168 rfl ⟨_,_,rfl,rfl⟩ (zm zy) ?_;apply @z7 _ (∃(x0:Nat),qJ x0 l s/\((OM NM l=OM NM l/\Ml 157 [] [N5 0 0]=Ml 157 [] [N5 0 0]/\(↑(OJ (OM NM l)):Int)=(↑(OJ (OM NM l)):Int)/\(0:Int)=(x0:Int)/\OG)/\(OM Nx (Ni s)=OM Nx (Ni s)/\OM N6 (Nh s)=OM N6 (Nh s)/\OM N9 (Nd s)=OM N9 (Nd s)/\OM Ny (Nb s)=OM Ny (Nb s)/\OM N8 (Nj s)=OM N8 (Nj s)/\OG)/\OG)/\∀(x:Nat),qJ x l s->(decide ((x:Int)<(↑(OJ (OM NM l)):Int))=true->((0:Int)<=(x:Int)/\(OM NM l)[N1 (x:Int)]? = some (qI l x))/\Nn Tryz.prog G 157 [OF (qI l x),.ptr 0 0] (wm s) λ(rs:ON D) (H':ON Box)=>∃(b:Bool),rs=[OD b]/\∃(l_1: ON D)(l_2:ON D)(l_3:ON D)(l_4:ON D)(l_5:ON D),H'=sS l_1 l_2 l_3 l_4 l_5/\(b=true->[OH .i64 (x:Int)]=[OH .i64 (yu (λ(z:Ev)=>sH s z) l 0)]/\sS l_1 l_2 l_3 l_4 l_5=wm s)/\(b=false->∃(y:Nat),qJ y l s/\OJ l - y<OJ l - x/\(OM NM l=OM NM l/\Ml 157 [] [N5 0 0]=Ml 157 [] [N5 0 0]/\(↑(OJ (OM NM l)):Int)=(↑(OJ (OM NM l)):Int)/\Nl .i64 ((x:Int)+1)=(y:Int)/\OG)/\(l_1=OM Nx (Ni s)/\l_2=OM N6 (Nh s)/\l_3=OM N9 (Nd s)/\l_4=OM Ny (Nb s)/\l_5=OM N8 (Nj s)/\OG)/\OG))/\(decide ((x:Int)<(↑(OJ (OM NM l)):Int))=false->[OH .i64 (-1)]=[OH .i64 (yu (λ(z:Ev) =>sH s z) l 0)]/\wm s=wm s))
 ·kernel_rfl
 delta qJ qI wm sS;refine⟨0,⟨L6 _,rfl⟩,by and_intros<;>first|rfl|trivial,λx hx=>⟨λhlt=>?_,λhge=>?_⟩⟩
 ·simp only[Nv,NR]at hlt;obtain⟨z,hz,hm⟩:=zt (l:=l) (x:=x) (by omega);have hx2:=hx.2;rw[yZ hz,yu]at hx2;rw[M1,mg hz];refine⟨⟨by omega,mf hz⟩,(O4 s hs z).mono ?_⟩;rintro rs H' ⟨rfl,rfl⟩;have e1:Nl .i64 ((x:Int)+1)=((x+1:Nat):Int):=by rw[zu (by omega) (by omega)];rfl
  refine⟨_,rfl,_,_,_,_,_,rfl,λhb=>⟨?_,rfl⟩,λhb=>⟨x+1,⟨by omega,?_⟩,by omega,by and_intros<;>first|rfl|trivial|exact e1⟩⟩
  ·rw[Nf hb]at hx2;rw[hx2]
  ·rw[N2 (by rw[hb];decide)]at hx2;exact hx2
 ·simp only[Nv,M2]at hge;have hx2:=hx.2;rw[ON.drop_eq_nil_of_le (by omega),yu]at hx2;exact⟨by rw[hx2],rfl⟩
theorem Qm (s:Sc) (hs:s.Fits) (l:ON Ev) (hl:l.length<4611686018427387904):Nn Tryz.prog G 160 [.d (.sl (l.map NM)),.clo 157 [] [.ptr 0 0]] (Wc s) (λrs H'=>rs=[.bool (l.any λz=>sH s z)]/\H'=Wc s):=by
 refine zF Tryz.func160 rfl ⟨_,_,rfl,rfl⟩ ?_;apply @z7 _ (Nn Tryz.prog G 168 [OF (.sl (OM NM l)),.clo 157 [] [N5 0 0]] (wm s) λ(rs:ON D) (H':ON Box)=>∃(n:Int),rs=[OH .i64 n]/\∃(l_1:ON D)(l_2:ON D)(l_3:ON D)(l_4:ON D)(l_5:ON D),H'=sS l_1 l_2 l_3 l_4 l_5/\[OD (decide (n>=0))]=[OD (ON.any l λ(z:Ev)=>sH s z)]/\sS l_1 l_2 l_3 l_4 l_5=wm s)
 ·kernel_rfl
 delta wm sS qJ qI;refine(Qn (G:=G) s hs l hl).mono ?_;rintro rs H' ⟨rfl,rfl⟩;refine⟨_,rfl,_,_,_,_,_,rfl,?_,rfl⟩;rw[uZ]
def qj (a:Nat) (b:ON Ev):ON D:=OM N3 (OM cr (NW a b))
def Yv (a:ON Ev) (b:Nat):ON D:=Mx [NY (Mx [(λ(x:Sh×Nat)=>match x with|(sh,j)=>MK sh (Nz (z1 (OM NM a) (N1 (b:Int)) j) default)) (NP .i64,0+1),(λ(x:Sh×Nat)=>match x with|(sh,j)=>MK sh (Nz (z1 (OM NM a) (N1 (b:Int)) j) default)) (NC,0)])]
theorem h120 (env:ON Ev) (hl:env.length<1099511627776):OB Tryz.prog G 120 [.sl (env.map NM)] (· = [.sl ((env.map cr).map N3)]):=by
 refine zr (LL [(3,zT (α:=Nat) Tryz.prog G L0 0 (zz (z6 Tryz.f120) 0) [6,7] (λx=>x<=env.length) (λx=>env.length - x) (λx=>[(3,.vec 0 (((env.take x).map cr).map N3)),(8,.d (.int .i64 x))]) (λ_ x=>[.vec x 2]))]) Tryz.func120 ⟨_,rfl⟩ (zm zy) ?_;apply @z7 _ (∃(x0:Nat),x0<=OJ env/\((([]=qj x0 env/\OJ ([]:ON D)<=x0)/\OM NM env=OM NM env/\(↑(OJ (OM NM env)):Int)=(↑(OJ (OM NM env)):Int)/\(0:Int)=(x0:Int)/\OG)/\OG)/\∀(x:Nat),x<=OJ env->(decide ((x:Int)<(↑(OJ (OM NM env)):Int))=true->((0:Int)<=(x:Int)/\(OM NM env)[N1 (x:Int)]? = some (qI env x))/\(x=OJ (qj x env)/\2=2/\FA (qj x env) [zk [NC,NP .i64] (OM NM env) (N1 (x:Int))] (nat_lit 2) (nat_lit 24))/\∃(y:Nat),y<=OJ env/\OJ env - y<OJ env - x/\(qj x env++Yv env x=qj y env/\OM NM env=OM NM env/\(↑(OJ (OM NM env)):Int)=(↑(OJ (OM NM env)):Int)/\Nl .i64 ((x:Int)+1)=(y:Int)/\OG)/\OJ (qj x env)+OJ (Yv env x)=y/\OG)/\(decide ((x:Int)<(↑(OJ (OM NM env)):Int))=false->[OE (qj x env)]=[OE (OM N3 (OM cr env))]))
 ·kernel_rfl
 delta qj qI qJ wm sS Yv;refine⟨0,by omega,by and_intros<;>first|rfl|trivial|simp,λx hx=>⟨λhlt=>?_,λhge=>?_⟩⟩
 ·simp only[Nv,NR]at hlt;obtain⟨z,hz,hm⟩:=zt (l:=env) (x:=x) (by omega);have ei (n:Int):NO (Nz (some (OH .i64 n)) default)=n:=rfl;have es (n:Nm):MJ (Nz (some (NZ n)) default)=n:=rfl;have hg:0<=(x:Int)/\(OM NM env)[x]? = some z.d:=⟨by omega,mf hz⟩;have hb2:zk [.str,.int .i64] (env.map NM) x=(cr z).d:=by show NY [_,_]=_;rw[jR hz,oD hz];rfl
  have hll:((env.take x).map cr).length=x:=by rw[Nv,Kr];omega
  have hc:=Vf ((env.take x).map cr++[cr z]);rw[M1,mg hz,hb2];dsimp only;rw[jR hz,oD hz];have e1:(OM N3 (OM cr (NW x env))++[(cr z).d])=OM N3 (OM cr (NW (x+1) env)):=by rw[yp hz,Lq,Lq];rfl
  refine⟨hg,⟨by rw[Nv,hll],rfl,⟨?_,by rw[Nv,hll];simp;omega⟩⟩,x+1,by omega,by omega,⟨e1,rfl,rfl,by rw[zu (by omega) (by omega)];rfl,trivial⟩,?_,trivial⟩
  ·simpa using hc
  ·rw[Nv,hll];rfl
 ·simp only[Nv,M2]at hge;rw[MY (by omega)]
end
section
variable {M:Mk}
theorem h118 (hM:M.Ok) (m:Int) (s:Sc) (env:ON Ev) (hs:s.Fits) (hl:ml (env.map cr)<=1099511627776) (hl2:env.length<1099511627776):OB Tryz.prog (GA M m) 118 [s.d,.sl (env.map NM)] (· = [.bool (SG s env)]):=by
 have h120:=h120 (G:=GA M m) env hl2;have g13:=(g13 hM (env.map cr) ⟨1,[],0⟩ hl (by simp)).more (fp M m);have h160:=Qm (G:=GA M m) s hs env (by omega);unfold Nc at *;rw[zf]at *;refine zn Tryz.func118 ⟨_,rfl⟩ ?_;apply @z7 _ (OB Tryz.prog (GA M m) 120 [OE (OM NM env)] λ(rs:ON D)=>∃(l:ON D),rs=[OE l]/\OB Tryz.prog (GA M m) 159 [OE l,.agg [.int .i64 1,.str (Mm (Mn (Mi #[]))),.int .i64 0]] λ(rs:ON D)=>∃(n:Int)(n_1:Int),rs=[OH .i64 n,.int .i64 n_1]/\Nn Tryz.prog (GA M m) 160 [OF (.sl (OM NM env)),.clo 157 [] [N5 0 0]] (wm s) λ(rs:ON D) (H':ON Box)=>H'=wm s/\∃(b:Bool),rs=[OD b]/\[OD (bif n_1==0 then !b else false)]=[OD (SG s env)])
 ·kernel_rfl
 delta wm;refine h120.use ⟨_,rfl,g13.use ⟨_,_,rfl,h160.mono ?_⟩⟩;rintro rs H' ⟨rfl,rfl⟩;refine⟨rfl,_,rfl,?_⟩;simp only[zM];rfl
def h70q5 (a:Sc):D:=NY [.sl (OM Nx (Ni a)),.sl (OM N6 (Nh a)),.sl (OM N9 (Nd a)),.sl (OM Ny (Nb a)),.sl (OM N8 (Nj a))]
def Xq (a:ON D) (b:Int):Prop:=a=[OH .i64 b]
def ai (a:Sc) (b:ON Pl) (c:ON Ev) (d:Fm):ON D:=[OD (N7 (w6 a b c d)),.int .i64 (NV (w6 a b c d))]
def Tx (a:Int) (b:Sc) (c:ON Pl) (d:ON Ev) (e:Fm):Prop:=[OD false,.int .i64 a]=ai b c d e
def Xp (a:Fm):ON D:=[NY [.int .i64 (NU a),.str (NG a),.int .i64 (NA a),.sl (OM Nc (NH a)),.sl (OM N3 (NJ a)),.sl (OM NX (Nt a))]]
theorem h70 (hM:M.Ok) (hF:M.Fn) (m:Int) (s:Sc) (w:ON Pl) (env:ON Ev) (f:Fm) (hs:s.Fits) (hw:w.length<1099511627776) (hl:ml (env.map cr)+f.wt<1099511627776) (hl2:env.length<1099511627776) (hp:(w6 s w env f).2=0->Pre s w env f):OB Tryz.prog (GA M m) 70 [s.d,wh w,.sl (env.map NM),f.d] (· = [.bool (w6 s w env f).1,.int .i64 (w6 s w env f).2]):=by
 have h83:=h83 (iE M m) s w hs hw;have h118:=h118 hM m s env hs (by omega) hl2;have h120:=h120 (G:=GA M m) env hl2;have g16:=(g16 hM (env.map cr) f hl).more (fp M m);have h121:=h121 (G:=GA M m) s f hs (by omega);have h87:=λh=>(h87 hF s w f hs env (hp h)).more (fp M m);unfold lC at *;rw[yq,yK f]at *;rw[zf]at *;refine zn Tryz.func70 ⟨_,rfl⟩ ?_;apply @z7 _ (OB Tryz.prog (GA M m) 83 [h70q5 s,.agg [.sl (OM Nr w)]] λ(rs:ON D)=>∃(n:Int),Xq rs n/\((n != 0)=true->Tx n s w env f)/\((n != 0)=false->OB Tryz.prog (GA M m) 118 [h70q5 s,.sl (OM NM env)] λ(rs:ON D)=>∃(b:Bool),rs=[OD b]/\((!b)=true->[OD false,.int .i64 1]=ai s w env f)/\((!b)=false->OB Tryz.prog (GA M m) 120 [OE (OM NM env)] λ(rs:ON D)=>∃(l:ON D),rs=[OE l]/\OB Tryz.prog (GA M m) 119 (OE l::Xp f) λ(rs:ON D)=>∃(n:Int),Xq rs n/\((n != 0)=true->Tx n s w env f)/\((n != 0)=false->OB Tryz.prog (GA M m) 121 (h70q5 s::Xp f) λ(rs:ON D)=>∃(n:Int),Xq rs n/\(decide (n>1048576)=true->[OD false,.int .i64 2]=ai s w env f)/\(decide (n>1048576)=false->OB Tryz.prog (GA M m) 87 (NY [.sl (OM Nx (Ni s)),.sl (OM N6 (Nh s)),.sl (OM N9 (Nd s)),.sl (OM Ny (Nb s)),.sl (OM N8 (Nj s)),.sl (OM Nr w)]::OE (OM NM env)::Xp f) λ(rs:ON D)=>∃(b:Bool),rs=[OD b]/\[OD b,.int .i64 0]=ai s w env f)))))
 ·kernel_rfl
 delta h70q5 Xq Tx ai Xp;refine h83.use ⟨_,rfl,λh=>?_,λh=>h118.use ⟨_,rfl,λh2=>?_,λh2=>h120.use ⟨_,rfl,g16.use ⟨_,rfl,λh3=>?_,λh3=>h121.use ⟨_,rfl,λh4=>?_,λh4=>?_⟩⟩⟩⟩⟩
 ·rw[w6,Nf h]
 ·rw[w6,N2 (by rw[h];decide),Nf h2]
 ·rw[w6,N2 (by rw[h];decide),N2 (by rw[h2];decide),Nf h3]
 ·rw[w6,N2 (by rw[h];decide),N2 (by rw[h2];decide),N2 (by rw[h3];decide),Nf (M3 h4)]
 ·have e:w6 s w env f=(f.sem s w env,0):=by rw[w6,N2 (by rw[h];decide),N2 (by rw[h2];decide),N2 (by rw[h3];decide),N2 (of_decide_eq_false h4)]
  exact(h87 (by rw[e])).use ⟨_,rfl,by rw[e]⟩
end
section
variable {G:Nat->OK (ON D)}
def bR (v:Bool×Bool):ON Bool:=[v.1,v.2]
def Yu (v:Bool×Bool) (k:Nat):ON D:=((bR v).take k++M4 (2 - k) false).map .bool
def QM (b1 b2:Bd) (t:Int×Int):ON Ev:=[⟨b1.name,b1.sort,t.1⟩,⟨b2.name,b2.sort,t.2⟩]
def iC {α:Type}(a b:α):Nat->α
 |0=>a
 |_=>b
def tL (t:Int×Int):ON Int:=[t.1,t.2]
def O5 (s:Sc):ON AV:=[.d (.sl (s.slots.map Nx)),.d (.sl (s.rooms.map N6)),.d (.sl (s.people.map N9)),.d (.sl (s.groups.map Ny)),.d (.sl (s.lessons.map N8))]
def OX (s:Sc) (r:Ru) (fz:ON Int):Box:= .cells 32 (O5 s++[.d (.sl [r.d]),.d (.sl (fz.map intD))])
def OW (r:Ru):Box:= .cells 89 [.d (.str r.name),.d (.bool r.hard),.d (.int .i64 r.weight),.d (.sl (r.each.map N3)),.d (.int .i64 r.body.kind),.d (.str r.body.name),.d (.int .i64 r.body.n),.d (.sl (r.body.ts.map Nc)),.d (.sl (r.body.bs.map N3)),.d (.sl (r.body.l.map NX))]
def O6 (r:Ru) (v1 v2:Bool×Bool) (j:Nat):ON Box:=[.cells 95 [.vec 3 ((M4 j r.hard).map .bool),.vec 4 (([OE ((bR v1).map .bool),OE ((bR v2).map .bool)]).take j),.d (.int .i64 2)],OW r,.vec j 1,.vec j 1]
theorem zx.one' {P:Ng}{rd:OK Nat}{n:Nat}{code b1:Np}{i1:Nat}{W1:LW}{r:ON (Nat×LW)}(h:loopsOf code=[b1]) (e1:LL ((i1,W1)::r) (loopId b1)=some W1) (h1:yU P G rd n b1 W1):zx P G rd n (LL ((i1,W1)::r)) (loopsOf code) := .of h (.cons e1 h1 .nil)
def xV (a:Sc) (b:Ru) (c:ON Int):Sc:=NT (I3 a [b] c)
def kW (a:Sc) (b:Ru) (c:ON Int):ON D:=OM Nx (Ni (xV a b c))
def kV (a:Sc) (b:Ru) (c:ON Int):D:=NY [.sl (kW a b c),.sl (OM N6 (Nh (xV a b c))),.sl (OM N9 (Nd (xV a b c))),.sl (OM Ny (Nb (xV a b c))),.sl (OM N8 (Nj (xV a b c)))]
def nN (a:Ru):ON D:=OM Nc (NH (M9 a))
def nM (a:Ru):ON D:=OM N3 (NJ (M9 a))
def iP (a:Ru):ON D:=OM NX (Nt (M9 a))
def Yt (a:Ru):D:=NY [.str (Kx a),.bool (LM a),.int .i64 (LD a),.sl (OM N3 (MF a)),.int .i64 (NU (M9 a)),.str (NG (M9 a)),.int .i64 (NA (M9 a)),.sl (nN a),.sl (nM a),.sl (iP a)]
def yx (a:Ru):ON D:=[Yt a]
def dO (a:Ru):D:=zk [NC,Sh.bool,NP .i64,NB,NP .i64,NC,NP .i64,NB,NB,NB] (yx a) (N1 0)
def dN (a:Ru):Prop:=(0:Int)<=0/\some (Yt a)=some (dO a)
def h29xq31:Prop:=N5 0 0=N5 0 0
def h29xq9:Prop:=N5 1 0=N5 1 0
def h29xq7:Prop:=N5 2 0=N5 2 0
def sR (a:Ru):Prop:=(↑(OJ (yx a)):Int)=(↑(OJ (yx a)):Int)
def u9 (a:ON D):Prop:=(↑(OJ a):Int)=(↑(OJ a):Int)
def dM (a:ON D) (b:Nat):Prop:=a=a/\u9 a/\(0:Int)=(b:Int)/\OG
def sQ (a:Sc) (b:Ru) (c:ON Int):Prop:=kW a b c=kW a b c/\OM N6 (Nh (xV a b c))=OM N6 (Nh (xV a b c))/\OM N9 (Nd (xV a b c))=OM N9 (Nd (xV a b c))/\OM Ny (Nb (xV a b c))=OM Ny (Nb (xV a b c))/\OM N8 (Nj (xV a b c))=OM N8 (Nj (xV a b c))/\yx b=yx b/\OM intD (ML (I3 a [b] c))=OM intD (ML (I3 a [b] c))/\OG
def vh (a:Nat) (b:Ru):ON D:=OM OD (M4 a (LM b))
def th (a:Nat) (b:Bool×Bool) (c:Bool×Bool):ON D:=NW a [OE (OM OD (bR b)),.sl (OM OD (bR c))]
def dL (a:Ru):Int:=NO (Nz (z1 (yx a) (N1 0) (0+1+1+1+1)) default)
def dK (a:Ru):ON UInt8:=MJ (Nz (z1 (yx a) (N1 0) (0+1+1+1+1+1)) default)
def dJ (a:Ru):Int:=NO (Nz (z1 (yx a) (N1 0) (0+1+1+1+1+1+1)) default)
def dI (a:Ru):ON D:=MT (Nz (z1 (yx a) (N1 0) (0+1+1+1+1+1+1+1)) default)
def dH (a:Ru):ON D:=MT (Nz (z1 (yx a) (N1 0) (0+1+1+1+1+1+1+1+1)) default)
def Ys (a:Ru):ON D:=MT (Nz (z1 (yx a) (N1 0) (0+1+1+1+1+1+1+1+1+1)) default)
def kU (a:Nat) (b:ON D):Bool:=decide ((a:Int)<(↑(OJ b):Int))
def dG (a:Nat) (b:ON D):Prop:=kU a b=true
def wv (a:ON D) (b:Nat):ON D:=MT (Nz (z1 a (N1 (b:Int)) 0) default)
def wu (a:Nat) (b:Bd) (c:Bd) (d:Int×Int) (e:Int×Int) (f:Nat):ON D:=OM NM (NW a (QM b c (iC d e f)))
def kT (a:Ru):Prop:=OM N3 (MF a)=OM N3 (MF a)
def sP (a:Ru):Int:=(↑(OJ (OM N3 (MF a))):Int)
def nL (a:Nat) (b:Ru) (c:Bool×Bool) (d:Bool×Bool):Prop:=vh a b=vh a b/\th a c d=th a c d/\(2:Int)=2/\OG
def qH (a:Ru):Prop:=Kx a=Kx a/\LM a=LM a/\LD a=LD a/\kT a/\NU (M9 a)=NU (M9 a)/\NG (M9 a)=NG (M9 a)/\NA (M9 a)=NA (M9 a)/\nN a=nN a/\nM a=nM a/\iP a=iP a/\OG
def dF (a:ON D) (b:Nat) (c:Nat):D:=OH .i64 (NO (Nz (z1 (wv a b) (N1 (c:Int)) 0) default))
def Yr (a:ON D) (b:Nat) (c:Nat) (d:Ru):ON D:=Mx [NY (Mx [(λ(x:Sh×Nat)=>match x with|(sh,j)=>MK sh (Nz (z1 (MT (Nz (z1 a (N1 (b:Int)) 0) default)) (N1 (c:Int)) j) default)) (NP .i64,0),(λ(x:Sh×Nat)=>match x with|(sh,j)=>MK sh (Nz (z1 (OM N3 (MF d)) (N1 (c:Int)) j) default)) (NP .i64,0+1),(λ(x:Sh×Nat)=>match x with|(sh,j)=>MK sh (Nz (z1 (OM N3 (MF d)) (N1 (c:Int)) j) default)) (NC,0)])]
def dE (a:Nat) (b:Nat):Prop:=Nl .i64 ((a:Int)+1)=(b:Int)/\OG
def nK (a:Ru):ON D:=[OD (LM a)]
def dD (a:Bool×Bool) (b:Bool×Bool) (c:Nat) (d:Nat):ON D:=[OE (Yu (iC a b c) d)]
def dC (a:Bool×Bool):D:=OE [OD (N7 a),.bool (NV a)]
theorem O7 (s:Sc) (r:Ru) (fz:ON Int) (w1 w2:ON Pl) (b1 b2:Bd) (t1 t2:Int×Int) (v1 v2:Bool×Bool) (hr:r.each=[b1,b2]) (h13:OB Tryz.prog G 13 [s.d,.int .i64 4096] (· = [.sl [wh w1,wh w2],.int .i64 0])) (h69:OB Tryz.prog G 69 [s.d,r.d] (· = [.sl [vl (tL t1),vl (tL t2)],.int .i64 0])) (h70:∀j k:Nat,j<2->k<2->OB Tryz.prog G 70 [s.d,wh (iC w1 w2 k),.sl ((QM b1 b2 (iC t1 t2 j)).map NM),r.body.d] (· = [.bool (iC (iC v1 v2 j).1 (iC v1 v2 j).2 k),.int .i64 0])): OB Tryz.prog G 29 [(⟨s,[r],fz⟩:Pn).d] (· = [.agg [.sl [.bool r.hard,.bool r.hard],.sl [.sl ((bR v1).map .bool),.sl ((bR v2).map .bool)],.int .i64 2],.bool true]):=by
 have hd:r.d = .agg [.str r.name,.bool r.hard,.int .i64 r.weight,.sl [b1.d,b2.d],.int .i64 r.body.kind,.str r.body.name,.int .i64 r.body.n,.sl (r.body.ts.map Nc),.sl (r.body.bs.map N3),.sl (r.body.l.map NX)]:=by unfold Na;rw[hr];rfl
 rw[yc];refine zr (LL [(4,zN Tryz.prog G (LL [(8,ui (α:=Nat) Tryz.prog G (λj=>LL [(12,zT (α:=Nat) Tryz.prog G L0 0 (zz (zz (zz (z6 Tryz.f29) 0) 0) 0) [1,2,4,5,6,7,11,15,28,29,30,42,43,44,49,50] (λx=>x<=2) (λx=>2 - x) (λx=>[(12,.vec 5 (((QM b1 b2 (iC t1 t2 j)).take x).map NM)),(51,.d (.int .i64 x))]) (λH x=>H.take 5++[Box.vec x 3])),(18,Rd 0 (zT (α:=Nat) Tryz.prog G L0 0 (zz (zz (zz (z6 Tryz.f29) 0) 0) 1) [1,2,4,5,6,7,11,12,15,28,29,30,42,43,44,72,73] (λx=>x<=2) (λx=>2 - x) (λx=>[(74,.d (.int .i64 x))]) (λH x=>H.take 6++[Box.arr 1 (Yu (iC v1 v2 j) x)])))]) 0 (zz (zz (z6 Tryz.f29) 0) 0) [1,2,4,5,6,7,28,29,30,42,43] (λj=>j<=2) (λj=>2 - j) (λj=>[(44,.d (.int .i64 j))]) (λH j=>[H.getD 0 .dead]++O6 r v1 v2 j)),(999999,λ_ _ _=>NL)]) (zz (z6 Tryz.f29) 0) 2)]) Tryz.func29 ⟨_,rfl⟩ (zm (zW mixed (zx.one' (b1:=zz (zz (z6 Tryz.f29) 0) 0) (by kernel_rfl) (by kernel_rfl) (yI mixed (λ_=>lE zy (Z1 zy)))) 2)) ?_;apply @z7 _ (OB Tryz.prog G 13 [kV s r fz,.int .i64 4096] λ(rs:ON D)=>∃(l:ON D)(n:Int),rs=[OE l,.int .i64 n]/\dN r/\OB Tryz.prog G 69 [kV s r fz,dO r] λ(rs:ON D)=>∃(l_1:ON D)(n_1:Int),rs=[OE l_1,.int .i64 n_1]/\∃(x0:Nat),x0<=2/\((h29xq31/\h29xq9/\l=l/\n=n/\(0:Int)=0/\h29xq7/\yx r=yx r/\sR r/\(0:Int)=0/\dM l_1 x0)/\sQ s r fz/\(([]=vh x0 r/\OJ ([]:ON D)<=x0)/\([]=th x0 v1 v2/\OJ ([]:ON D)<=x0)/\(↑(OJ l):Int)=2/\OG)/\(MJ (Nz (z1 (yx r) (N1 0) 0) default)=Kx r/\D.toBool (Nz (z1 (yx r) (N1 0) (0+1)) default)=LM r/\NO (Nz (z1 (yx r) (N1 0) (0+1+1)) default)=LD r/\MT (Nz (z1 (yx r) (N1 0) (0+1+1+1)) default)=OM N3 (MF r)/\dL r=NU (M9 r)/\dK r=NG (M9 r)/\dJ r=NA (M9 r)/\dI r=nN r/\dH r=nM r/\Ys r=iP r/\OG)/\OG)/\∀(x:Nat),x<=2->(dG x l_1->((0:Int)<=(x:Int)/\l_1[N1 (x:Int)]? = some (OE (wv l_1 x)))/\∃(x0:Nat),x0<=2/\((h29xq31/\h29xq9/\l=l/\n=n/\(0:Int)=0/\h29xq7/\wv l_1 x=wv l_1 x/\([]=wu x0 b1 b2 t1 t2 x/\OJ ([]:ON D)<=x0)/\yx r=yx r/\sR r/\(0:Int)=0/\l_1=l_1/\u9 l_1/\(x:Int)=(x:Int)/\kT r/\sP r=sP r/\(0:Int)=(x0:Int)/\OG)/\sQ s r fz/\nL x r v1 v2/\qH r/\x=x/\x=x/\OG)/\∀(x_1:Nat),x_1<=2->(decide ((x_1:Int)<sP r)=true->((0: Int)<=(x_1:Int)/\(OM N3 (MF r))[N1 (x_1:Int)]? = some (zk [NC,NP .i64] (OM N3 (MF r)) (N1 (x_1:Int))))/\((0:Int)<=(x_1:Int)/\(wv l_1 x)[N1 (x_1:Int)]? = some (dF l_1 x x_1))/\(x_1=OJ (wu x_1 b1 b2 t1 t2 x)/\3=3/\FA (wu x_1 b1 b2 t1 t2 x) [NY [.str (MJ (Nz (z1 (OM N3 (MF r)) (N1 (x_1:Int)) 0) default)),.int .i64 (NO (Nz (z1 (OM N3 (MF r)) (N1 (x_1:Int)) (0+1)) default)),dF l_1 x x_1]] (nat_lit 3) (nat_lit 32))/\∃(y:Nat),y<=2/\2 - y<2 - x_1/\(h29xq31/\h29xq9/\l=l/\n=n/\(0:Int)=0/\h29xq7/\wv l_1 x=wv l_1 x/\wu x_1 b1 b2 t1 t2 x++Yr l_1 x x_1 r=wu y b1 b2 t1 t2 x/\yx r=yx r/\sR r/\(0:Int)=0/\l_1=l_1/\u9 l_1/\(x:Int)=(x:Int)/\kT r/\sP r=sP r/\dE x_1 y)/\sQ s r fz/\nL x r v1 v2/\qH r/\x=x/\x=x/\OJ (wu x_1 b1 b2 t1 t2 x)+OJ (Yr l_1 x x_1 r)=y/\OG)/\(decide ((x_1:Int)<sP r)=false->(u9 l/\(0:Int)<=(↑(OJ l):Int)/\(↑(OJ l):Int)<=1000000000/\(↑1:Int)*(↑(OJ l):Int)<=281474976710656)/\∃(x0:Nat),x0<=2/\((h29xq31/\h29xq9/\l=l/\n=n/\(0:Int)=0/\h29xq7/\wv l_1 x=wv l_1 x/\wu x_1 b1 b2 t1 t2 x=wu x_1 b1 b2 t1 t2 x/\MP 6=MP 6/\yx r=yx r/\sR r/\(0:Int)=0/\l_1=l_1/\u9 l_1/\(x:Int)=(x:Int)/\dM l x0)/\sQ s r fz/\nL x r v1 v2/\qH r/\x=x/\x=x/\x_1=x_1/\M4 (N1 (↑(OJ l):Int)) (OD false)=Yu (iC v1 v2 x) x0/\OG)/\∀(x_2:Nat),x_2<=2->(dG x_2 l->((0:Int)<=(x_2:Int)/\l[N1 (x_2:Int)]? = some (zk [NB] l (N1 (x_2:Int))))/\dN r/\OB Tryz.prog G 70 [kV s r fz,zk [NB] l (N1 (x_2:Int)),.sl (wu x_1 b1 b2 t1 t2 x),.agg [.int .i64 (dL r),.str (dK r),.int .i64 (dJ r),.sl (dI r),.sl (dH r),.sl (Ys r)]] λ(rs:ON D)=>∃(b:Bool)(n_2:Int),rs=[OD b,.int .i64 n_2]/\((0:Int)<=(x_2:Int)/\N1 (x_2:Int)<OJ (Yu (iC v1 v2 x) x_2))/\N1 (x_2:Int)<OJ (Yu (iC v1 v2 x) x_2)/\∃(y:Nat),y<=2/\2 - y<2 - x_2/\(h29xq31/\h29xq9/\l=l/\n=n/\(0:Int)=0/\h29xq7/\wv l_1 x=wv l_1 x/\wu x_1 b1 b2 t1 t2 x=wu x_1 b1 b2 t1 t2 x/\MP 6=MP 6/\yx r = yx r/\sR r/\(0:Int)=0/\l_1=l_1/\u9 l_1/\(x:Int)=(x:Int)/\l=l/\u9 l/\dE x_2 y)/\sQ s r fz/\nL x r v1 v2/\qH r/\x=x/\x=x/\x_1=x_1/\w8 (Yu (iC v1 v2 x) x_2) (N1 (x_2:Int)) 0 (Mx [aZ false [OD b]])=Yu (iC v1 v2 x) y/\OG)/\(kU x_2 l=false->(x=OJ (vh x r)/\1=1/\FA (vh x r) (nK r) (nat_lit 1) (nat_lit 1))/\(x=OJ (th x v1 v2)/\1=1/\FA (th x v1 v2) (dD v1 v2 x x_2) (nat_lit 1) (nat_lit 24))/\∃(y:Nat),y<=2/\2 - y<2 - x/\(h29xq31/\h29xq9/\l=l/\n=n/\(0:Int)=0/\h29xq7/\yx r=yx r/\sR r/\(0:Int)=0/\l_1=l_1/\u9 l_1/\dE x y)/\sQ s r fz/\(vh x r++Mx (nK r)=vh y r/\th x v1 v2++Mx (dD v1 v2 x x_2)=th y v1 v2/\(2:Int)=2/\OG)/\qH r/\OJ (vh x r)+OJ (Mx (nK r))=y/\OJ (th x v1 v2)+OJ (Mx (dD v1 v2 x x_2))=y/\OG)))/\(kU x l_1=false->[NY [.sl (vh x r),.sl (th x v1 v2),.int .i64 2],.bool (n==0)]=[NY [.sl (OD (LM r)::nK r),.sl [dC v1,dC v2],.int .i64 2],.bool true]))
 ·kernel_rfl
 delta kV kW xV dN Yt nN nM iP dO yx h29xq31 h29xq9 h29xq7 sR dM u9 sQ vh th dL dK dJ dI dH Ys dG kU wv wu kT sP nL qH dF Yr dE nK dD dC;clear hd;obtain⟨nm,hd,wt,each,body⟩:=r;dsimp only at hr;subst hr;rw[zf]at *;simp only[zf,yK body]at h70;refine h13.use ⟨_,_,rfl,⟨by (first|decide|exact MR rfl|exact M3 rfl|(simp;done)|omega),rfl⟩,h69.use ⟨_,_,rfl,0,by omega,by and_intros<;>first|rfl|trivial|(first|decide|exact MR rfl|exact M3 rfl|(simp;done)|omega),λj hj=>⟨λhlt=>?_,λhge=>?_⟩⟩⟩
 ·have hj2:j=0∨j=1:=by simp only[MO,LZ,NR]at hlt;omega
  refine⟨?_,0,by omega,?_,λk hk=>⟨λhlt2=>?_,λhge2=>?_⟩⟩
  ·rcases hj2 with rfl|rfl<;>exact⟨by (first|decide|exact MR rfl|exact M3 rfl|(simp;done)|omega),rfl⟩
  ·and_intros<;>first|rfl|trivial|(first|decide|exact MR rfl|exact M3 rfl|(simp;done)|omega)
  ·have hk2:k=0∨k=1:=by simp only[Mf,LO,MO,LZ,NR]at hlt2;omega
   refine⟨?_,?_,?_,k+1,by omega,by omega,?_⟩
   ·rcases hk2 with rfl|rfl<;>exact⟨by (first|decide|exact MR rfl|exact M3 rfl|(simp;done)|omega),rfl⟩
   ·rcases hj2 with rfl|rfl<;>rcases hk2 with rfl|rfl<;>exact⟨by (first|decide|exact MR rfl|exact M3 rfl|(simp;done)|omega),rfl⟩
   ·rcases hj2 with rfl|rfl<;>rcases hk2 with rfl|rfl<;>exact⟨rfl,rfl,⟨rfl,by (first|decide|exact MR rfl|exact M3 rfl|(simp;done)|omega)⟩⟩
   ·rcases hj2 with rfl|rfl<;>rcases hk2 with rfl|rfl<;>(and_intros<;>first|rfl|trivial|(first|decide|exact MR rfl|exact M3 rfl|(simp;done)|omega))
  ·have hk2:k=2:=by simp only[Mf,LO,MO,LZ,M2]at hge2;omega
   subst hk2;refine⟨⟨by simp,by simp,by simp⟩,0,by omega,?_,λm hm=>⟨λhlt3=>?_,λhge3=>?_⟩⟩
   ·rcases hj2 with rfl|rfl<;>(and_intros<;>first|rfl|trivial|(first|decide|exact MR rfl|exact M3 rfl|(simp;done)|omega))
   ·have hm2:m=0∨m=1:=by simp only[MO,LZ,NR]at hlt3;omega
    refine⟨?_,⟨by (first|decide|exact MR rfl|exact M3 rfl|(simp;done)|omega),rfl⟩,?_⟩
    ·rcases hm2 with rfl|rfl<;>exact⟨by (first|decide|exact MR rfl|exact M3 rfl|(simp;done)|omega),rfl⟩
    ·rcases hj2 with rfl|rfl<;>rcases hm2 with rfl|rfl
     ·refine(h70 0 0 (by omega) (by omega)).use ⟨_,_,rfl,?_⟩;exact⟨⟨by (first|decide|exact MR rfl|exact M3 rfl|(simp;done)|omega),by (first|decide|exact MR rfl|exact M3 rfl|(simp;done)|omega)⟩,by (first|decide|exact MR rfl|exact M3 rfl|(simp;done)|omega),1,by omega,by omega,by and_intros<;>first|rfl|trivial|(first|decide|exact MR rfl|exact M3 rfl|(simp;done)|omega)⟩
     ·refine(h70 0 1 (by omega) (by omega)).use ⟨_,_,rfl,?_⟩;exact⟨⟨by (first|decide|exact MR rfl|exact M3 rfl|(simp;done)|omega),by (first|decide|exact MR rfl|exact M3 rfl|(simp;done)|omega)⟩,by (first|decide|exact MR rfl|exact M3 rfl|(simp;done)|omega),2,by omega,by omega,by and_intros<;>first|rfl|trivial|(first|decide|exact MR rfl|exact M3 rfl|(simp;done)|omega)⟩
     ·refine(h70 1 0 (by omega) (by omega)).use ⟨_,_,rfl,?_⟩;exact⟨⟨by (first|decide|exact MR rfl|exact M3 rfl|(simp;done)|omega),by (first|decide|exact MR rfl|exact M3 rfl|(simp;done)|omega)⟩,by (first|decide|exact MR rfl|exact M3 rfl|(simp;done)|omega),1,by omega,by omega,by and_intros<;>first|rfl|trivial|(first|decide|exact MR rfl|exact M3 rfl|(simp;done)|omega)⟩
     ·refine(h70 1 1 (by omega) (by omega)).use ⟨_,_,rfl,?_⟩;exact⟨⟨by (first|decide|exact MR rfl|exact M3 rfl|(simp;done)|omega),by (first|decide|exact MR rfl|exact M3 rfl|(simp;done)|omega)⟩,by (first|decide|exact MR rfl|exact M3 rfl|(simp;done)|omega),2,by omega,by omega,by and_intros<;>first|rfl|trivial|(first|decide|exact MR rfl|exact M3 rfl|(simp;done)|omega)⟩
   ·have hm2:m=2:=by simp only[MO,LZ,M2]at hge3;omega
    subst hm2;rcases hj2 with rfl|rfl
    ·exact⟨⟨rfl,rfl,⟨rfl,by (first|decide|exact MR rfl|exact M3 rfl|(simp;done)|omega)⟩⟩,⟨rfl,rfl,⟨rfl,by (first|decide|exact MR rfl|exact M3 rfl|(simp;done)|omega)⟩⟩,1,by omega,by omega,by and_intros<;>first|rfl|trivial|(first|decide|exact MR rfl|exact M3 rfl|(simp;done)|omega)⟩
    ·exact⟨⟨rfl,rfl,⟨rfl,by (first|decide|exact MR rfl|exact M3 rfl|(simp;done)|omega)⟩⟩,⟨rfl,rfl,⟨rfl,by (first|decide|exact MR rfl|exact M3 rfl|(simp;done)|omega)⟩⟩,2,by omega,by omega,by and_intros<;>first|rfl|trivial|(first|decide|exact MR rfl|exact M3 rfl|(simp;done)|omega)⟩
 ·have hj2:j=2:=by simp only[MO,LZ,M2]at hge;omega
  subst hj2;rfl
end
inductive NilD:ON D->Prop
 |mk:NilD []
def LX (l:ON (Nat×LW)):Loops:=LL (l++[(999999,λ_ _ _=>NL)])
section
variable {P:Ng}{G:Nat->OK (ON D)}{rd:OK Nat}{n:Nat}
theorem zx.none {L:Loops}{code:Np}(h:(loopsOf code).all (λb=>(L (loopId b)).isNone)=true):zx P G rd n L (loopsOf code):=by intro b hb W hW;have:=ND.1 h b hb;rw[hW]at this;cases this
theorem zx.oneX {code b1:Np}{i1:Nat}{W1:LW}(h:loopsOf code=[b1]) (e1:LX [(i1,W1)] (loopId b1)=some W1) (h1:yU P G rd n b1 W1):zx P G rd n (LX [(i1,W1)]) (loopsOf code) := .of h (.cons e1 h1 .nil)
theorem zx.twoX {code b1 b2:Np}{i1 i2:Nat}{W1 W2:LW}(h:loopsOf code=[b1,b2]) (e1:LX [(i1,W1),(i2,W2)] (loopId b1)=some W1) (e2:LX [(i1,W1),(i2,W2)] (loopId b2)=some W2) (h1:yU P G rd n b1 W1) (h2:yU P G rd n b2 W2):zx P G rd n (LX [(i1,W1),(i2,W2)]) (loopsOf code) := .of h (.cons e1 h1 (.cons e2 h2 .nil))
end
section
variable {G:Nat->OK (ON D)}
def c239_0q2:ON UInt8:=[(8:UInt8),(8:UInt8),(8:UInt8),(8:UInt8),(8:UInt8),(8:UInt8),(8:UInt8),(8:UInt8),(8:UInt8),(8:UInt8),(8:UInt8),(8:UInt8),(8:UInt8),(8:UInt8),(8:UInt8),(8:UInt8),(8:UInt8),(8:UInt8),(8:UInt8),(8:UInt8),(8:UInt8),(8:UInt8),(8:UInt8),(8:UInt8),(8:UInt8),(8:UInt8),(8:UInt8),(8:UInt8),(8:UInt8),(8:UInt8),(8:UInt8),(8:UInt8),(8:UInt8),(8:UInt8),(8:UInt8),(8:UInt8),(8:UInt8),(8:UInt8),(8:UInt8),(8:UInt8),(8:UInt8),(8:UInt8),(8:UInt8),(8:UInt8),(8:UInt8),(8:UInt8),(8:UInt8),(8:UInt8),(8:UInt8),(8:UInt8),(8:UInt8),(8:UInt8),(8:UInt8),(8:UInt8),(8:UInt8),(8:UInt8),(8:UInt8),(8:UInt8),(8:UInt8),(8:UInt8),(8:UInt8),(8:UInt8),(8:UInt8),(8:UInt8)]
def c239_0q1:ON UInt8:=Mm (Mn (Mi (ON.toArray (IL (IL [(0:UInt8),(1:UInt8),(2:UInt8),(2:UInt8),(3:UInt8),(3:UInt8),(3:UInt8),(3:UInt8),(4:UInt8),(4:UInt8),(4:UInt8),(4:UInt8),(4:UInt8),(4:UInt8),(4:UInt8),(4:UInt8),(5:UInt8),(5:UInt8),(5:UInt8),(5:UInt8),(5:UInt8),(5:UInt8),(5:UInt8),(5:UInt8),(5:UInt8),(5:UInt8),(5:UInt8),(5:UInt8),(5:UInt8),(5:UInt8),(5:UInt8),(5:UInt8),(6:UInt8),(6:UInt8),(6:UInt8),(6:UInt8),(6:UInt8),(6:UInt8),(6:UInt8),(6:UInt8),(6:UInt8),(6:UInt8),(6:UInt8),(6:UInt8),(6:UInt8),(6:UInt8),(6:UInt8),(6:UInt8),(6:UInt8),(6:UInt8),(6:UInt8),(6:UInt8),(6:UInt8),(6:UInt8),(6:UInt8),(6:UInt8),(6:UInt8),(6:UInt8),(6:UInt8),(6: UInt8),(6:UInt8),(6:UInt8),(6:UInt8),(6:UInt8)] [(7:UInt8),(7:UInt8),(7:UInt8),(7:UInt8),(7:UInt8),(7:UInt8),(7:UInt8),(7:UInt8),(7:UInt8),(7:UInt8),(7:UInt8),(7:UInt8),(7:UInt8),(7:UInt8),(7:UInt8),(7:UInt8),(7:UInt8),(7:UInt8),(7:UInt8),(7:UInt8),(7:UInt8),(7:UInt8),(7:UInt8),(7:UInt8),(7:UInt8),(7:UInt8),(7:UInt8),(7:UInt8),(7:UInt8),(7:UInt8),(7:UInt8),(7:UInt8),(7:UInt8),(7:UInt8),(7:UInt8),(7:UInt8),(7:UInt8),(7:UInt8),(7:UInt8),(7:UInt8),(7:UInt8),(7:UInt8),(7:UInt8),(7:UInt8),(7:UInt8),(7:UInt8),(7:UInt8),(7:UInt8),(7:UInt8),(7:UInt8),(7:UInt8),(7:UInt8),(7:UInt8),(7:UInt8),(7:UInt8),(7:UInt8),(7:UInt8),(7:UInt8),(7:UInt8),(7:UInt8),(7:UInt8),(7:UInt8),(7:UInt8),(7:UInt8)]) (IL c239_0q2 c239_0q2)))))
theorem c239_0:OB Tryz.prog G 239 [.int .u64 0] (· = [.int .i64 0]):=by
 refine zr (LX []) Tryz.func239 ⟨_,rfl⟩ (zx.none (by kernel_rfl)) ?_;apply @z7 _ ((0<=Nl .u8 0/\N1 (Nl .u8 0)<OJ c239_0q1)/\[OH .i64 (Nl .i64 (0+Nl .i64 (↑(GX (HX c239_0q1 (N1 (Nl .u8 0)) (0:UInt8))):Int)))]=[OH .i64 0])
 ·kernel_rfl
 delta c239_0q1 c239_0q2;exact⟨⟨by decide,by decide⟩,by kernel_rfl⟩
theorem c199_0:OB Tryz.prog G 199 [.int .u64 0] (· = [.int .i64 0]):=by
 refine zr (LX []) Tryz.func199 ⟨_,rfl⟩ (zx.none (by kernel_rfl)) ?_;apply @z7 _ (OB Tryz.prog G 239 [OH .u64 0] λ(rs:ON D)=>∃(n:Int),rs=[OH .i64 n]/\[OH .i64 n]=[OH .i64 0])
 ·kernel_rfl
 exact c239_0.use ⟨_,rfl,rfl⟩
theorem c239_1:OB Tryz.prog G 239 [.int .u64 1] (· = [.int .i64 1]):=by
 refine zr (LX []) Tryz.func239 ⟨_,rfl⟩ (zx.none (by kernel_rfl)) ?_;apply @z7 _ ((0<=Nl .u8 1/\N1 (Nl .u8 1)<OJ c239_0q1)/\[OH .i64 (Nl .i64 (0+Nl .i64 (↑(GX (HX c239_0q1 (N1 (Nl .u8 1)) (0:UInt8))):Int)))]=[OH .i64 1])
 ·kernel_rfl
 delta c239_0q1 c239_0q2;exact⟨⟨by decide,by decide⟩,by kernel_rfl⟩
theorem c199_1:OB Tryz.prog G 199 [.int .u64 1] (· = [.int .i64 1]):=by
 refine zr (LX []) Tryz.func199 ⟨_,rfl⟩ (zx.none (by kernel_rfl)) ?_;apply @z7 _ (OB Tryz.prog G 239 [OH .u64 1] λ(rs:ON D)=>∃(n:Int),rs=[OH .i64 n]/\[OH .i64 n]=[OH .i64 1])
 ·kernel_rfl
 exact c239_1.use ⟨_,rfl,rfl⟩
theorem c230_0:OB Tryz.prog G 230 [.sl [],.int .i64 0,.int .i64 0,.fn 166] NilD:=by
 refine zr (LX [(1,zN Tryz.prog G (LX []) (zz (z6 Tryz.f230) 0) 2)]) Tryz.func230 ⟨_,.mk⟩ (zx.oneX (b1:=(zz (z6 Tryz.f230) 0)) (by kernel_rfl) (by kernel_rfl) (zW mixed (zx.none (by kernel_rfl)) _)) ?_;apply @z7 _ (NilD (Mx ([]:ON D)))
 ·kernel_rfl
 exact .mk
theorem c198_0:OB Tryz.prog G 198 [.sl [],.int .i64 0,.int .i64 0,.int .i64 0,.fn 166] NilD:=by
 refine zr (LX [(2,zN Tryz.prog G (LX []) (zz (z6 Tryz.f198) 0) 2)]) Tryz.func198 ⟨_,.mk⟩ (zx.oneX (b1:=(zz (z6 Tryz.f198) 0)) (by kernel_rfl) (by kernel_rfl) (zW mixed (zx.none (by kernel_rfl)) _)) ?_;apply @z7 _ (OB Tryz.prog G 230 [OE [],.int .i64 0,.int .i64 0,.fn 166] λ(rs:ON D)=>rs=[]/\NilD (Mx ([]:ON D)))
 ·kernel_rfl
 exact c230_0.mono (by rintro _ ⟨⟩;exact⟨rfl,.mk⟩)
theorem c165_0:OB Tryz.prog G 165 [.sl [],.fn 166] NilD:=by
 refine zr (LX []) Tryz.func165 ⟨_,.mk⟩ (zx.none (by kernel_rfl)) ?_;apply @z7 _ (OB Tryz.prog G 199 [OH .u64 (Nl .u64 (↑(OJ ([]:ON D)):Int))] λ(rs:ON D)=>∃(n:Int),rs=[OH .i64 n]/\OB Tryz.prog G 198 [OE [],.int .i64 0,.int .i64 (↑(OJ ([]:ON D)):Int),.int .i64 n,.fn 166] λ(rs:ON D)=>rs=[]/\NilD (Mx ([]:ON D)))
 ·kernel_rfl
 exact c199_0.use ⟨_,rfl,c198_0.mono (by rintro _ ⟨⟩;exact⟨rfl,.mk⟩)⟩
theorem c129_0:OB Tryz.prog G 129 [.sl []] (· = [.sl []]):=by
 refine zr (LX []) Tryz.func129 ⟨_,rfl⟩ (zx.none (by kernel_rfl)) ?_;apply @z7 _ (OB Tryz.prog G 165 [OE [],.fn 166] λ(rs:ON D)=>rs=[]/\[OE []]=[OE []])
 ·kernel_rfl
 exact c165_0.mono (by rintro _ ⟨⟩;exact⟨rfl,rfl⟩)
theorem c230_1:OB Tryz.prog G 230 [.sl [.sl []],.int .i64 0,.int .i64 1,.fn 166] NilD:=by
 refine zr (LX [(1,zN Tryz.prog G (LX []) (zz (z6 Tryz.f230) 0) 2)]) Tryz.func230 ⟨_,.mk⟩ (zx.oneX (b1:=(zz (z6 Tryz.f230) 0)) (by kernel_rfl) (by kernel_rfl) (zW mixed (zx.none (by kernel_rfl)) _)) ?_;apply @z7 _ (NilD (Mx ([]:ON D)))
 ·kernel_rfl
 exact .mk
theorem c198_1:OB Tryz.prog G 198 [.sl [.sl []],.int .i64 0,.int .i64 1,.int .i64 1,.fn 166] NilD:=by
 refine zr (LX [(2,zN Tryz.prog G (LX []) (zz (z6 Tryz.f198) 0) 2)]) Tryz.func198 ⟨_,.mk⟩ (zx.oneX (b1:=(zz (z6 Tryz.f198) 0)) (by kernel_rfl) (by kernel_rfl) (zW mixed (zx.none (by kernel_rfl)) _)) ?_;apply @z7 _ (OB Tryz.prog G 230 [OE [OE []],.int .i64 0,.int .i64 1,.fn 166] λ(rs:ON D)=>rs=[]/\NilD (Mx ([]:ON D)))
 ·kernel_rfl
 exact c230_1.mono (by rintro _ ⟨⟩;exact⟨rfl,.mk⟩)
theorem c165_1:OB Tryz.prog G 165 [.sl [.sl []],.fn 166] NilD:=by
 refine zr (LX []) Tryz.func165 ⟨_,.mk⟩ (zx.none (by kernel_rfl)) ?_;apply @z7 _ (OB Tryz.prog G 199 [OH .u64 (Nl .u64 (↑(OJ [OE []]):Int))] λ(rs:ON D)=>∃(n:Int),rs=[OH .i64 n]/\OB Tryz.prog G 198 [OE [OE []],.int .i64 0,.int .i64 (↑(OJ [OE []]):Int),.int .i64 n,.fn 166] λ(rs:ON D)=>rs=[]/\NilD (Mx ([]:ON D)))
 ·kernel_rfl
 exact c199_1.use ⟨_,rfl,c198_1.mono (by rintro _ ⟨⟩;exact⟨rfl,.mk⟩)⟩
theorem c129_1:OB Tryz.prog G 129 [.sl [.sl []]] (· = [.sl [.sl []]]):=by
 refine zr (LX []) Tryz.func129 ⟨_,rfl⟩ (zx.none (by kernel_rfl)) ?_;apply @z7 _ (OB Tryz.prog G 165 [OE [OE []],.fn 166] λ(rs:ON D)=>rs=[]/\[OE [OE []]]=[OE [OE []]])
 ·kernel_rfl
 exact c165_1.mono (by rintro _ ⟨⟩;exact⟨rfl,rfl⟩)
def c71_hq1:ON Box:=[Kw [],.cells 30 [.d (.sl [])]]
theorem c71_h:Nn Tryz.prog G 71 [.d (.sl []),.clo 124 [] [.ptr 1 0]] ([.map [],.cells 30 [.d (.sl [])]]) (λrs H'=>rs=[.int .i64 (-1)]/\H'=[.map [],.cells 30 [.d (.sl [])]]):=by
 refine zg (LX [(2,zN Tryz.prog G (LX []) (zz (z6 Tryz.f71) 0) 1)]) Tryz.func71 rfl ⟨_,_,rfl,rfl⟩ (zx.oneX (b1:=(zz (z6 Tryz.f71) 0)) (by kernel_rfl) (by kernel_rfl) (zW mixed (zx.none (by kernel_rfl)) _)) ?_;apply @z7 _ ([OH .i64 (-1)]=[OH .i64 (-1)]/\c71_hq1=c71_hq1)
 ·kernel_rfl
 delta c71_hq1;exact⟨rfl,rfl⟩
def qG (a:ON (D×D)) (b:ON D):ON Box:=[Kw a,.cells 30 [.d (.sl b)]]
theorem c32_h:Nn Tryz.prog G 32 [.d (.sl []),.clo 124 [] [.ptr 1 0]] ([.map [],.cells 30 [.d (.sl [])]]) (λrs H'=>rs=[.bool false]/\H'=[.map [],.cells 30 [.d (.sl [])]]):=by
 refine zg (LX []) Tryz.func32 rfl ⟨_,_,rfl,rfl⟩ (zx.none (by kernel_rfl)) ?_;apply @z7 _ (Nn Tryz.prog G 71 [OF (.sl []),.clo 124 [] [N5 1 0]] c71_hq1 λ(rs:ON D) (H':ON Box)=>∃(n:Int),rs=[OH .i64 n]/\∃(es:ON (D×D)),∃(l:ON D),H'=qG es l/\[OD (decide (n>=0))]=[OD false]/\qG es l=c71_hq1)
 ·kernel_rfl
 delta c71_hq1 qG;refine c71_h.mono ?_;rintro rs H' ⟨rfl,rfl⟩;exact⟨_,rfl,_,_,rfl,rfl,rfl⟩
theorem c127_0:OB Tryz.prog G 127 [.sl [],.fn 128] (· = [.sl []]):=by
 refine zr (LX [(3,zN Tryz.prog G (LX []) (zz (z6 Tryz.f127) 0) 1)]) Tryz.func127 ⟨_,rfl⟩ (zx.oneX (b1:=(zz (z6 Tryz.f127) 0)) (by kernel_rfl) (by kernel_rfl) (zW mixed (zx.none (by kernel_rfl)) _)) ?_;apply @z7 _ ([OE []]=[OE []])
 ·kernel_rfl
 rfl
theorem c77_0:OB Tryz.prog G 77 [.sl []] (· = [.sl [.sl []],.int .i64 0]):=by
 refine zr (LX [(3,zN Tryz.prog G (LX [(6,zN Tryz.prog G (LX []) (zz (zz (z6 Tryz.f77) 0) 0) 1)]) (zz (z6 Tryz.f77) 0) 2),(17,zN Tryz.prog G (LX [(21,zN Tryz.prog G (LX [(26,zN Tryz.prog G (LX []) (zz (zz (zz (z6 Tryz.f77) 1) 0) 0) 1)]) (zz (zz (z6 Tryz.f77) 1) 0) 2)]) (zz (z6 Tryz.f77) 1) 2)]) Tryz.func77 ⟨_,rfl⟩ (zx.twoX (b1:=(zz (z6 Tryz.f77) 0)) (b2:=(zz (z6 Tryz.f77) 1)) (by kernel_rfl) (by kernel_rfl) (by kernel_rfl) (zW mixed (zx.oneX (b1:=(zz (zz (z6 Tryz.f77) 0) 0)) (by kernel_rfl) (by kernel_rfl) (zW mixed (zx.none (by kernel_rfl)) _)) _) (zW mixed (zx.oneX (b1:=(zz (zz (z6 Tryz.f77) 1) 0)) (by kernel_rfl) (by kernel_rfl) (zW mixed (zx.oneX (b1:=(zz (zz (zz (z6 Tryz.f77) 1) 0) 0)) (by kernel_rfl) (by kernel_rfl) (zW mixed (zx.none (by kernel_rfl)) _)) _)) _)) ?_;apply @z7 _ (OB Tryz.prog G 129 [OE [OE []]] λ(rs:ON D)=>∃(l:ON D),rs=[OE l]/\[OE l,.int .i64 0]=[OE [OE []],.int .i64 0])
 ·kernel_rfl
 exact c129_1.use ⟨_,rfl,rfl⟩
def c77_1q1:Prop:=(0:Int)<=0/\some (OE [])=some (OE [])
def kR (a:ON D) (b:Nat->OK (ON D)):Prop:= ∃(l:ON D),a=[OE l]/\OB Tryz.prog b 129 [OE l] λ(rs:ON D)=>∃(l:ON D),rs=[OE l]/\[OE l,.int .i64 0]=[OE [],.int .i64 0]
def nH (a:ON D):D:=OH .i64 (NO (Nz (z1 a (N1 0) 0) default))
theorem c77_1:OB Tryz.prog G 77 [.sl [.sl []]] (· = [.sl [],.int .i64 0]):=by
 refine zr (LX [(3,zN Tryz.prog G (LX [(6,zN Tryz.prog G (LX []) (zz (zz (z6 Tryz.f77) 0) 0) 1)]) (zz (z6 Tryz.f77) 0) 2),(17,zN Tryz.prog G (LX [(21,zN Tryz.prog G (LX [(26,zN Tryz.prog G (LX []) (zz (zz (zz (z6 Tryz.f77) 1) 0) 0) 1)]) (zz (zz (z6 Tryz.f77) 1) 0) 2)]) (zz (z6 Tryz.f77) 1) 2)]) Tryz.func77 ⟨_,rfl⟩ (zx.twoX (b1:=(zz (z6 Tryz.f77) 0)) (b2:=(zz (z6 Tryz.f77) 1)) (by kernel_rfl) (by kernel_rfl) (by kernel_rfl) (zW mixed (zx.oneX (b1:=(zz (zz (z6 Tryz.f77) 0) 0)) (by kernel_rfl) (by kernel_rfl) (zW mixed (zx.none (by kernel_rfl)) _)) _) (zW mixed (zx.oneX (b1:=(zz (zz (z6 Tryz.f77) 1) 0)) (by kernel_rfl) (by kernel_rfl) (zW mixed (zx.oneX (b1:=(zz (zz (zz (z6 Tryz.f77) 1) 0) 0)) (by kernel_rfl) (by kernel_rfl) (zW mixed (zx.none (by kernel_rfl)) _)) _)) _)) ?_;apply @z7 _ (c77_1q1/\c77_1q1/\c77_1q1/\Nn Tryz.prog G 32 [OF (.sl []),.clo 124 [] [N5 1 0]] c71_hq1 λ(rs:ON D) (H':ON Box)=>∃(b:Bool),rs=[OD b]/\∃(es:ON (D×D)),∃(l:ON D),H'=qG es l/\bif b then FA [] [OE []] (nat_lit 1) (nat_lit 24)/\OB Tryz.prog G 127 [OE [OE []],.fn 128] λ(rs:ON D)=>kR rs G else bif decide ((0:Int)<(↑(OJ l):Int))then((0:Int)<=0/\l[N1 0]? = some (nH l))/\OB Tryz.prog G 125 [OE [],nH l] λ(rs:ON D)=>∃(n:Int)(b:Bool),rs=[OH .i64 n,.bool b]/\PFnV Tryz.prog G 35 [OE []] 1 λ(l_1:ON D)=>OB Tryz.prog G 126 [OE l_1,.int .i64 n,.sl [nH l]] λ(rs:ON D)=>∃(l:ON D),rs=[OE l]/\FA [] [OE l] (nat_lit 1) (nat_lit 24)/\NL else OB Tryz.prog G 127 [OE [],.fn 128] λ(rs:ON D)=>kR rs G)
 ·kernel_rfl
 delta c77_1q1 c71_hq1 qG kR nH;refine⟨⟨by decide,rfl⟩,⟨by decide,rfl⟩,⟨by decide,rfl⟩,c32_h.mono ?_⟩;rintro rs H' ⟨rfl,rfl⟩;refine⟨_,rfl,_,_,rfl,?_⟩;exact c127_0.use ⟨_,rfl,c129_0.use ⟨_,rfl,rfl⟩⟩
theorem c79:OB Tryz.prog G 79 [.sl [],.sl []] (· = [.bool true]):=by
 refine zr (LX [(4,zN Tryz.prog G (LX []) (zz (z6 Tryz.f79) 0) 1)]) Tryz.func79 ⟨_,rfl⟩ (zx.oneX (b1:=(zz (z6 Tryz.f79) 0)) (by kernel_rfl) (by kernel_rfl) (zW mixed (zx.none (by kernel_rfl)) _)) ?_;apply @z7 _ ([OD true]=[OD true])
 ·kernel_rfl
 rfl
theorem c78_0:OB Tryz.prog G 78 [.sl [],.sl [],.fn 79] (· = [.bool true]):=by
 refine zr (LX [(4,zN Tryz.prog G (LX []) (zz (z6 Tryz.f78) 0) 1)]) Tryz.func78 ⟨_,rfl⟩ (zx.oneX (b1:=(zz (z6 Tryz.f78) 0)) (by kernel_rfl) (by kernel_rfl) (zW mixed (zx.none (by kernel_rfl)) _)) ?_;apply @z7 _ ([OD true]=[OD true])
 ·kernel_rfl
 rfl
theorem c78_1:OB Tryz.prog G 78 [.sl [.sl []],.sl [.sl []],.fn 79] (· = [.bool true]):=by
 refine zr (LX [(4,zN Tryz.prog G (LX []) (zz (z6 Tryz.f78) 0) 2)]) Tryz.func78 ⟨_,rfl⟩ (zx.oneX (b1:=(zz (z6 Tryz.f78) 0)) (by kernel_rfl) (by kernel_rfl) (zW mixed (zx.none (by kernel_rfl)) _)) ?_;apply @z7 _ (c77_1q1/\c77_1q1/\OB Tryz.prog G 79 [OE [],.sl []] λ(rs:ON D)=>∃(b:Bool),rs=[OD b]/\bif !b then [OD false]=[OD true]else [OD true]=[OD true])
 ·kernel_rfl
 delta c77_1q1 c71_hq1 qG kR nH;exact⟨⟨by decide,rfl⟩,⟨by decide,rfl⟩,c79.use ⟨_,rfl,rfl⟩⟩
theorem c41_0:OB Tryz.prog G 41 [.sl [],.sl [.sl []]] (· = [.bool true]):=by
 refine zr (LX []) Tryz.func41 ⟨_,rfl⟩ (zx.none (by kernel_rfl)) ?_;apply @z7 _ (OB Tryz.prog G 77 [OE []] λ(rs:ON D)=>∃(l:ON D)(n:Int),rs=[OE l,.int .i64 n]/\OB Tryz.prog G 78 [OE l,.sl [OE []],.fn 79] λ(rs:ON D)=>∃(b:Bool),rs=[OD b]/\[OD (bif n != 0 then true else b)]=[OD true])
 ·kernel_rfl
 exact c77_0.use ⟨_,_,rfl,c78_1.use ⟨_,rfl,rfl⟩⟩
theorem c41_1:OB Tryz.prog G 41 [.sl [.sl []],.sl []] (· = [.bool true]):=by
 refine zr (LX []) Tryz.func41 ⟨_,rfl⟩ (zx.none (by kernel_rfl)) ?_;apply @z7 _ (OB Tryz.prog G 77 [OE [OE []]] λ(rs:ON D)=>∃(l:ON D)(n:Int),rs=[OE l,.int .i64 n]/\OB Tryz.prog G 78 [OE l,.sl [],.fn 79] λ(rs:ON D)=>∃(b:Bool),rs=[OD b]/\[OD (bif n != 0 then true else b)]=[OD true])
 ·kernel_rfl
 exact c77_1.use ⟨_,_,rfl,c78_0.use ⟨_,rfl,rfl⟩⟩
end
section
variable {G:Nat->OK (ON D)}{rd:OK Nat}{n:Nat}{P:Ng}
theorem zK {L:Loops}{code:Np}(h:(loopsOf code).all (λb=>(L (loopId b)).isNone)=true:=by kernel_rfl):zx P G rd n L (loopsOf code):=zx.none h
theorem wN {code:Np}{i1:Nat}{W1:LW}(h1:yU P G rd n (zz code 0) W1) (h:loopsOf code=[zz code 0]:=by kernel_rfl) (e1:LX [(i1,W1)] (loopId (zz code 0))=some W1:=by kernel_rfl):zx P G rd n (LX [(i1,W1)]) (loopsOf code):=zx.oneX h e1 h1
theorem ah {code:Np}{i1 i2:Nat}{W1 W2:LW}(h1:yU P G rd n (zz code 0) W1) (h2:yU P G rd n (zz code 1) W2) (h:loopsOf code=[zz code 0,zz code 1]:=by kernel_rfl) (e1:LX [(i1,W1),(i2,W2)] (loopId (zz code 0))=some W1:=by kernel_rfl) (e2:LX [(i1,W1),(i2,W2)] (loopId (zz code 1))=some W2:=by kernel_rfl):zx P G rd n (LX [(i1,W1),(i2,W2)]) (loopsOf code):=zx.twoX h e1 e2 h1 h2
theorem xl {L:Loops}{body:Np}{k:Nat}(hL:zx Tryz.prog G rd n L (loopsOf body)):yU Tryz.prog G rd n body (zN Tryz.prog G L body k):=zW mixed hL k
end
def hY (s:Sc) (r:Ru) (fz:ON Int) (cs fs rows:ON D):ON Box:=[OX s r fz,.cells 57 [.d (.int .i64 1),.d (.sl cs),.d (.sl fs)],.cells 95 [.d (.sl [.bool false,.bool false]),.d (.sl rows),.d (.int .i64 2)]]
def QL (rows:ON D) (k:Int):ON Box:=[.cells 95 [.d (.sl [.bool false,.bool false]),.d (.sl rows),.d (.int .i64 2)],.cells 3 [.d (.int .i64 k)]]
def dB (rows:ON D):D:= .agg [.sl [.bool false,.bool false],.sl rows,.int .i64 2]
section
variable {G:Nat->OK (ON D)}
theorem c33:OB Tryz.prog G 33 [.sl []] (· = [.bool true]):=by
 refine zr (LX [(2,zN Tryz.prog G (LX []) (zz (z6 Tryz.f33) 0) 1)]) Tryz.func33 ⟨_,rfl⟩ (wN (xl zK)) ?_;apply @z7 _ ([OD true]=[OD true])
 ·kernel_rfl
 rfl
theorem c34:OB Tryz.prog G 34 [.sl []] (· = [.sl []]):=by
 refine zr (LX []) Tryz.func34 ⟨_,rfl⟩ zK ?_;apply @z7 _ ([OE []]=[OE []])
 ·kernel_rfl
 rfl
theorem c35:OB Tryz.prog G 35 [.sl []] (· = [.sl []]):=by
 refine zr (LX []) Tryz.func35 ⟨_,rfl⟩ zK ?_;apply @z7 _ (∀(b:Bool),(b=true->([]:ON D)=[])->bif b then [OE []]=[OE []]else FA [] [] (nat_lit 1) (nat_lit 8)/\[OE []]=[OE []])
 ·kernel_rfl
 intro b _;cases b
 ·exact⟨⟨rfl,by decide⟩,rfl⟩
 ·rfl
def y8 (a:Sc) (b:Ru) (c:ON Int) (d:ON D) (e:ON D) (f:ON D):ON Box:=[Ns 32 [.d (.sl (OM Nx (Ni a))),.d (.sl (OM N6 (Nh a))),.d (.sl (OM N9 (Nd a))),.d (.sl (OM Ny (Nb a))),.d (.sl (OM N8 (Nj a))),.d (.sl [NY [.str (Kx b),.bool (LM b),.int .i64 (LD b),.sl (OM N3 (MF b)),.int .i64 (NU (M9 b)),.str (NG (M9 b)),.int .i64 (NA (M9 b)),.sl (OM Nc (NH (M9 b))),.sl (OM N3 (NJ (M9 b))),.sl (OM NX (Nt (M9 b)))]]),.d (.sl (OM intD c))],.cells 57 [.d (.int .i64 1),.d (.sl d),.d (.sl e)],.cells 95 [.d (.sl [OD false,.bool false]),.d (.sl f),.d (.int .i64 2)]]
theorem Ql (s:Sc) (r:Ru) (fz:ON Int) (cs fs rows:ON D):Nn Tryz.prog G 71 [.d (.sl []),.clo 31 [] [.ptr 2 0]] (hY s r fz cs fs rows) (λrs H'=>rs=[.int .i64 (-1)]/\H'=hY s r fz cs fs rows):=by
 refine zg (LX [(2,zN Tryz.prog G (LX []) (zz (z6 Tryz.f71) 0) 1)]) Tryz.func71 rfl ⟨_,_,rfl,rfl⟩ (wN (xl zK)) ?_;apply @z7 _ ([OH .i64 (-1)]=[OH .i64 (-1)]/\y8 s r fz cs fs rows=y8 s r fz cs fs rows)
 ·kernel_rfl
 delta y8;exact⟨rfl,rfl⟩
def c32_oq1 (a:ON D) (b:ON D) (c:ON D) (d:ON D) (e:ON D) (f:ON D) (g:ON D):Box:=Ns 32 [.d (.sl a),.d (.sl b),.d (.sl c),.d (.sl d),.d (.sl e),.d (.sl f),.d (.sl g)]
def zR (a:Int) (b:ON D) (c:ON D) (d:ON D) (e:ON D) (f:Int):ON Box:=[Ns 57 [.d (.int .i64 a),.d (.sl b),.d (.sl c)],.cells 95 [.d (.sl d),.d (.sl e),.d (.int .i64 f)]]
theorem Qk (s:Sc) (r:Ru) (fz:ON Int) (cs fs rows:ON D):Nn Tryz.prog G 32 [.d (.sl []),.clo 31 [] [.ptr 2 0]] (hY s r fz cs fs rows) (λrs H'=>rs=[.bool false]/\H'=hY s r fz cs fs rows):=by
 refine zg (LX []) Tryz.func32 rfl ⟨_,_,rfl,rfl⟩ zK ?_;apply @z7 _ (Nn Tryz.prog G 71 [OF (.sl []),.clo 31 [] [N5 2 0]] (y8 s r fz cs fs rows) λ(rs:ON D) (H':ON Box)=>∃(n:Int),rs=[OH .i64 n]/\∃(l:ON D)(l_1:ON D)(l_2:ON D)(l_3:ON D)(l_4:ON D)(l_5:ON D)(l_6:ON D)(n_1:Int)(l_7:ON D)(l_8:ON D)(l_9:ON D)(l_10:ON D)(n_2:Int),H'=c32_oq1 l l_1 l_2 l_3 l_4 l_5 l_6::zR n_1 l_7 l_8 l_9 l_10 n_2/\[OD (decide (n>=0))]=[OD false]/\c32_oq1 l l_1 l_2 l_3 l_4 l_5 l_6::zR n_1 l_7 l_8 l_9 l_10 n_2=y8 s r fz cs fs rows)
 ·kernel_rfl
 delta y8 c32_oq1 zR;refine(Ql s r fz cs fs rows).mono ?_;rintro rs H' ⟨rfl,rfl⟩;exact⟨_,rfl,_,_,_,_,_,_,_,_,_,_,_,_,_,rfl,rfl,rfl⟩
def uB (a:ON D):ON Box:=[Ns 95 [.d (.sl [OD false,.bool false]),.d (.sl a),.d (.int .i64 2)],.cells 3 [.d (.int .i64 0)]]
theorem Qj (rows:ON D):Nn Tryz.prog G 71 [.d (.sl []),.clo 74 [] [.ptr 0 0,.ptr 1 0]] (QL rows 0) (λrs H'=>rs=[.int .i64 (-1)]/\H'=QL rows 0):=by
 refine zg (LX [(2,zN Tryz.prog G (LX []) (zz (z6 Tryz.f71) 0) 1)]) Tryz.func71 rfl ⟨_,_,rfl,rfl⟩ (wN (xl zK)) ?_;apply @z7 _ ([OH .i64 (-1)]=[OH .i64 (-1)]/\uB rows=uB rows)
 ·kernel_rfl
 delta uB;exact⟨rfl,rfl⟩
def nG (a:ON D) (b:ON D) (c:Int) (d:Int):ON Box:=[Ns 95 [.d (.sl a),.d (.sl b),.d (.int .i64 c)],.cells 3 [.d (.int .i64 d)]]
theorem Qi (rows:ON D):Nn Tryz.prog G 32 [.d (.sl []),.clo 74 [] [.ptr 0 0,.ptr 1 0]] (QL rows 0) (λrs H'=>rs=[.bool false]/\H'=QL rows 0):=by
 refine zg (LX []) Tryz.func32 rfl ⟨_,_,rfl,rfl⟩ zK ?_;apply @z7 _ (Nn Tryz.prog G 71 [OF (.sl []),.clo 74 [] [N5 0 0,.ptr 1 0]] (uB rows) λ(rs:ON D) (H':ON Box)=>∃(n:Int),rs=[OH .i64 n]/\∃(l:ON D)(l_1:ON D)(n_1:Int)(n_2:Int),H'=nG l l_1 n_1 n_2/\[OD (decide (n>=0))]=[OD false]/\nG l l_1 n_1 n_2=uB rows)
 ·kernel_rfl
 delta uB nG;refine(Qj rows).mono ?_;rintro rs H' ⟨rfl,rfl⟩;exact⟨_,rfl,_,_,_,_,rfl,rfl,rfl⟩
theorem c30 (s:Sc) (r:Ru) (fz:ON Int) (cs fs rows:ON D):Nn Tryz.prog G 30 [.d (.sl []),.ptr 2 0] (hY s r fz cs fs rows) (λrs H'=>rs=[.bool false]/\H'=hY s r fz cs fs rows):=by
 refine zg (LX []) Tryz.func30 rfl ⟨_,_,rfl,rfl⟩ zK ?_;apply @z7 _ (Nn Tryz.prog G 32 [OF (.sl []),.clo 31 [] [N5 2 0]] (y8 s r fz cs fs rows) λ(rs:ON D) (H':ON Box)=>∃(b:Bool),rs=[OD b]/\∃(l:ON D)(l_1:ON D)(l_2:ON D)(l_3:ON D)(l_4:ON D)(l_5:ON D)(l_6:ON D)(n:Int)(l_7:ON D)(l_8:ON D)(l_9:ON D)(l_10:ON D)(n_1:Int),H'=c32_oq1 l l_1 l_2 l_3 l_4 l_5 l_6::zR n l_7 l_8 l_9 l_10 n_1/\OB Tryz.prog G 33 [OE []] λ(rs:ON D)=>∃(b_1:Bool),rs=[OD b_1]/\OB Tryz.prog G 35 [OE []] λ(rs:ON D)=>∃(l_11:ON D),rs=[OE l_11]/\OB Tryz.prog G 34 [OE l_11] λ(rs:ON D)=>∃(l_12:ON D),rs=[OE l_12]/\[OD (bif bif b then true else !b_1 then true else(↑(OJ l_12):Int) != (↑(OJ ([]:ON D)):Int))]=[OD false]/\c32_oq1 l l_1 l_2 l_3 l_4 l_5 l_6::zR n l_7 l_8 l_9 l_10 n_1=y8 s r fz cs fs rows)
 ·kernel_rfl
 delta y8 c32_oq1 zR;refine(Qk s r fz cs fs rows).mono ?_;rintro rs H' ⟨rfl,rfl⟩;exact⟨_,rfl,_,_,_,_,_,_,_,_,_,_,_,_,_,rfl,c33.use ⟨_,rfl,c35.use ⟨_,rfl,c34.use ⟨_,rfl,rfl,rfl⟩⟩⟩⟩
theorem Qh (s:Sc) (r:Ru) (fz:ON Int) (cs fs rows:ON D):Nn Tryz.prog G 73 [.d (.sl []),.clo 30 [] [.ptr 2 0]] (hY s r fz cs fs rows) (λrs H'=>rs=[.int .i64 (-1)]/\H'=hY s r fz cs fs rows):=by
 refine zg (LX [(2,zN Tryz.prog G (LX []) (zz (z6 Tryz.f73) 0) 1)]) Tryz.func73 rfl ⟨_,_,rfl,rfl⟩ (wN (xl zK)) ?_;apply @z7 _ ([OH .i64 (-1)]=[OH .i64 (-1)]/\y8 s r fz cs fs rows=y8 s r fz cs fs rows)
 ·kernel_rfl
 delta y8;exact⟨rfl,rfl⟩
theorem Qg (s:Sc) (r:Ru) (fz:ON Int) (cs fs rows:ON D):Nn Tryz.prog G 73 [.d (.sl [.sl []]),.clo 30 [] [.ptr 2 0]] (hY s r fz cs fs rows) (λrs H'=>rs=[.int .i64 (-1)]/\H'=hY s r fz cs fs rows):=by
 refine zg (LX [(2,zN Tryz.prog G (LX []) (zz (z6 Tryz.f73) 0) 2)]) Tryz.func73 rfl ⟨_,_,rfl,rfl⟩ (wN (xl zK)) ?_;apply @z7 _ (((0:Int)<=0/\some (OE [])=some (OE []))/\Nn Tryz.prog G 30 [OF (.sl []),.ptr 2 0] (y8 s r fz cs fs rows) λ(rs:ON D) (H':ON Box)=>∃(b:Bool),rs=[OD b]/\∃(l:ON D)(l_1:ON D)(l_2:ON D)(l_3:ON D)(l_4:ON D)(l_5:ON D)(l_6:ON D)(n:Int)(l_7:ON D)(l_8:ON D)(l_9:ON D)(l_10:ON D)(n_1:Int),H'=c32_oq1 l l_1 l_2 l_3 l_4 l_5 l_6::zR n l_7 l_8 l_9 l_10 n_1/\bif b then [OH .i64 0]=[OH .i64 (-1)]/\c32_oq1 l l_1 l_2 l_3 l_4 l_5 l_6::zR n l_7 l_8 l_9 l_10 n_1=y8 s r fz cs fs rows else [OH .i64 (-1)]=[OH .i64 (-1)]/\c32_oq1 l l_1 l_2 l_3 l_4 l_5 l_6::zR n l_7 l_8 l_9 l_10 n_1=y8 s r fz cs fs rows)
 ·kernel_rfl
 delta y8 c32_oq1 zR;refine⟨⟨by decide,rfl⟩,?_⟩;refine(c30 s r fz cs fs rows).mono ?_;rintro rs H' ⟨rfl,rfl⟩;exact⟨_,rfl,_,_,_,_,_,_,_,_,_,_,_,_,_,rfl,rfl,rfl⟩
theorem Si (s:Sc) (r:Ru) (fz:ON Int) (cs fs rows:ON D):Nn Tryz.prog G 36 [.d (.sl []),.clo 30 [] [.ptr 2 0]] (hY s r fz cs fs rows) (λrs H'=>rs=[.bool false]/\H'=hY s r fz cs fs rows):=by
 refine zg (LX []) Tryz.func36 rfl ⟨_,_,rfl,rfl⟩ zK ?_;apply @z7 _ (Nn Tryz.prog G 73 [OF (.sl []),.clo 30 [] [N5 2 0]] (y8 s r fz cs fs rows) λ(rs:ON D) (H':ON Box)=>∃(n:Int),rs=[OH .i64 n]/\∃(l:ON D)(l_1:ON D)(l_2:ON D)(l_3:ON D)(l_4:ON D)(l_5:ON D)(l_6:ON D)(n_1:Int)(l_7:ON D)(l_8:ON D)(l_9:ON D)(l_10:ON D)(n_2:Int),H'=c32_oq1 l l_1 l_2 l_3 l_4 l_5 l_6::zR n_1 l_7 l_8 l_9 l_10 n_2/\[OD (decide (n>=0))]=[OD false]/\c32_oq1 l l_1 l_2 l_3 l_4 l_5 l_6::zR n_1 l_7 l_8 l_9 l_10 n_2=y8 s r fz cs fs rows)
 ·kernel_rfl
 delta y8 c32_oq1 zR;refine(Qh s r fz cs fs rows).mono ?_;rintro rs H' ⟨rfl,rfl⟩;exact⟨_,rfl,_,_,_,_,_,_,_,_,_,_,_,_,_,rfl,rfl,rfl⟩
theorem Sg (s:Sc) (r:Ru) (fz:ON Int) (cs fs rows:ON D):Nn Tryz.prog G 36 [.d (.sl [.sl []]),.clo 30 [] [.ptr 2 0]] (hY s r fz cs fs rows) (λrs H'=>rs=[.bool false]/\H'=hY s r fz cs fs rows):=by
 refine zg (LX []) Tryz.func36 rfl ⟨_,_,rfl,rfl⟩ zK ?_;apply @z7 _ (Nn Tryz.prog G 73 [OF (.sl [OE []]),.clo 30 [] [N5 2 0]] (y8 s r fz cs fs rows) λ(rs:ON D) (H':ON Box)=>∃(n:Int),rs=[OH .i64 n]/\∃(l:ON D)(l_1:ON D)(l_2:ON D)(l_3:ON D)(l_4:ON D)(l_5:ON D)(l_6:ON D)(n_1:Int)(l_7:ON D)(l_8:ON D)(l_9:ON D)(l_10:ON D)(n_2:Int),H'=c32_oq1 l l_1 l_2 l_3 l_4 l_5 l_6::zR n_1 l_7 l_8 l_9 l_10 n_2/\[OD (decide (n>=0))]=[OD false]/\c32_oq1 l l_1 l_2 l_3 l_4 l_5 l_6::zR n_1 l_7 l_8 l_9 l_10 n_2=y8 s r fz cs fs rows)
 ·kernel_rfl
 delta y8 c32_oq1 zR;refine(Qg s r fz cs fs rows).mono ?_;rintro rs H' ⟨rfl,rfl⟩;exact⟨_,rfl,_,_,_,_,_,_,_,_,_,_,_,_,_,rfl,rfl,rfl⟩
theorem On (rows:ON D):OB Tryz.prog G 37 [dB rows,.sl []] (· = [.bool true]):=by
 unfold dB;refine zr (LX [(2,zN Tryz.prog G (LX []) (zz (z6 Tryz.f37) 0) 1)]) Tryz.func37 ⟨_,rfl⟩ (wN (xl zK)) ?_;apply @z7 _ (Nn Tryz.prog G 32 [OF (.sl []),.clo 74 [] [N5 0 0,.ptr 1 0]] (uB rows) λ(rs:ON D) (H':ON Box)=>∃(b:Bool),rs=[OD b]/\∃(l:ON D)(l_1:ON D)(n:Int)(n_1:Int),H'=nG l l_1 n n_1/\bif !b then [OD true]=[OD true]else NL)
 ·kernel_rfl
 delta uB nG;refine(Qi rows).mono ?_;rintro rs H' ⟨rfl,rfl⟩;exact⟨_,rfl,_,_,_,_,rfl,rfl⟩
theorem OV (rows:ON D):OB Tryz.prog G 40 [dB rows,.sl []] (· = [.sl []]):=by
 unfold dB;refine zr (LX [(3,zN Tryz.prog G (LX []) (zz (z6 Tryz.f40) 0) 3)]) Tryz.func40 ⟨_,rfl⟩ (wN (xl zK)) ?_;apply @z7 _ (((0:Int)<=0/\some (OD false)=some (OD false))/\OB Tryz.prog G 76 [OE [],.int .i64 0] λ(rs:ON D)=>∃(b:Bool),rs=[OD b]/\(0<=Nl .i64 ((0:Int)+1)/\some (OD false)=some (OD false))/\OB Tryz.prog G 76 [OE [],.int .i64 (Nl .i64 ((0:Int)+1))] λ(rs:ON D)=>∃(b:Bool),rs=[OD b]/\[OE []]=[OE []])
 ·kernel_rfl
 exact⟨⟨by decide,rfl⟩,(Tj (G:=G) [] 0 (by simp)).use ⟨_,rfl,⟨by decide,rfl⟩,(Tj (G:=G) [] (Nl .i64 (0+1)) (by simp)).use ⟨_,rfl,rfl⟩⟩⟩
def Tw (a:ON D):D:=NY [.sl [OD false,.bool false],.sl a,.int .i64 2]
theorem OU (s:Sc) (r:Ru) (fz:ON Int) (cs fs rows:ON D):Nn Tryz.prog G 39 [.d (.sl []),.ptr 2 0] (hY s r fz cs fs rows) (λrs H'=>rs=[.bool false]/\H'=hY s r fz cs fs rows):=by
 refine zg (LX []) Tryz.func39 rfl ⟨_,_,rfl,rfl⟩ zK ?_;apply @z7 _ (OB Tryz.prog G 40 [Tw rows,.sl []] λ(rs:ON D)=>∃(l:ON D),rs=[OE l]/\OB Tryz.prog G 37 [Tw rows,.sl l] λ(rs:ON D)=>∃(b:Bool),rs=[OD b]/\[OD !b]=[OD false]/\y8 s r fz cs fs rows=y8 s r fz cs fs rows)
 ·kernel_rfl
 delta Tw y8;exact(OV rows).use ⟨_,rfl,(On rows).use ⟨_,rfl,rfl,rfl⟩⟩
theorem Qf (rows:ON D):Nn Tryz.prog G 38 [.d (.sl []),.clo 37 [.agg [.d (.sl [.bool false,.bool false]),.d (.sl rows),.d (.int .i64 2)]] []] ([]) (λrs H'=>rs=[.bool true]/\H'=[]):=by
 refine zg (LX [(2,zN Tryz.prog G (LX []) (zz (z6 Tryz.f38) 0) 1)]) Tryz.func38 rfl ⟨_,_,rfl,rfl⟩ (wN (xl zK)) ?_;apply @z7 _ ([OD true]=[OD true]/\([]:ON Box)=[])
 ·kernel_rfl
 exact⟨rfl,rfl⟩
theorem Qe (s:Sc) (r:Ru) (fz:ON Int) (cs fs rows:ON D):Nn Tryz.prog G 38 [.d (.sl []),.clo 39 [] [.ptr 2 0]] (hY s r fz cs fs rows) (λrs H'=>rs=[.bool true]/\H'=hY s r fz cs fs rows):=by
 refine zg (LX [(2,zN Tryz.prog G (LX []) (zz (z6 Tryz.f38) 0) 1)]) Tryz.func38 rfl ⟨_,_,rfl,rfl⟩ (wN (xl zK)) ?_;apply @z7 _ ([OD true]=[OD true]/\y8 s r fz cs fs rows=y8 s r fz cs fs rows)
 ·kernel_rfl
 delta y8;exact⟨rfl,rfl⟩
def y3 (a:Sc) (b:Ru) (c:ON Int):Sc:=NT (I3 a [b] c)
def uz (a:Sc) (b:Ru) (c:ON Int):ON D:=OM N8 (Nj (y3 a b c))
def xU (a:Sc) (b:Ru) (c:ON Int):Int:=(↑(OJ (uz a b c)):Int)
def vO (a:Ru):D:=OE [NY [.str (Kx a),.bool (LM a),.int .i64 (LD a),.sl (OM N3 (MF a)),.int .i64 (NU (M9 a)),.str (NG (M9 a)),.int .i64 (NA (M9 a)),.sl (OM Nc (NH (M9 a))),.sl (OM N3 (NJ (M9 a))),.sl (OM NX (Nt (M9 a)))]]
def c16_fq18:Prop:=[OD false]=[OD true]
def vN (a:ON D) (b:ON D) (c:Int):D:=NY [.sl a,.sl b,.int .i64 c]
def zD (a:Bool):ON D:=[OD a]
def c16_fq17:ON AV:=[N5 2 0]
def nF (a:ON D) (b:ON D) (c:Int):ON AV:=[OF (.sl a),.d (.sl b),.d (.int .i64 c)]
def uA (a:ON D):Bool:=decide ((0:Int)<(↑(OJ a):Int))
def xk (a:ON D):D:=OE (MT (Nz (z1 a (N1 0) 0) default))
def vM (a:ON D):Prop:=(0:Int)<=0/\a[N1 0]? = some (xk a)
def qF (a:ON D) (b:ON D) (c:Int):ON AV:=[Ml 37 [AV.agg (nF a b c)] []]
def c16_fq19:Int:=Nl .i64 ((0:Int)+1)
def qE (a:ON D):Bool:=decide (c16_fq19<(↑(OJ a):Int))
def wM (a:ON D):D:=OE (MT (Nz (z1 a (N1 c16_fq19) 0) default))
def qD (a:ON D):Prop:=0<=c16_fq19/\a[N1 c16_fq19]? = some (wM a)
def qC (a:Nat->OK (ON D)) (b:ON D) (c:ON D) (d:Int):Prop:=OB Tryz.prog a 41 [OE b,.sl c] λ(rs:ON D)=>∃(b_1:Bool),rs=zD b_1/\OB Tryz.prog a 41 [OE c,.sl b] λ(rs:ON D)=>∃(b:Bool),rs=zD b/\[OD (bif d==3 then true else bif b_1 then b else false)]=[OD true]
def nE (a:ON D) (b:ON Box) (c:Nat->OK (ON D)) (d:ON D):Prop:= ∃(b_1:Bool),a=zD b_1/\∃(l:ON D)(l_1:ON D)(l_2:ON D)(l_3:ON D)(l_4:ON D)(l_5:ON D)(l_6:ON D)(n:Int)(l_7:ON D)(l_8:ON D)(l_9:ON D)(l_10:ON D)(n_1:Int),b=c32_oq1 l l_1 l_2 l_3 l_4 l_5 l_6::zR n l_7 l_8 l_9 l_10 n_1/\Nn Tryz.prog c 38 [OF (xk d),.clo 39 [] c16_fq17] (c32_oq1 l l_1 l_2 l_3 l_4 l_5 l_6::zR n l_7 l_8 l_9 l_10 n_1) λ(rs:ON D) (H':ON Box)=>H'=c32_oq1 l l_1 l_2 l_3 l_4 l_5 l_6::zR n l_7 l_8 l_9 l_10 n_1/\∃(b:Bool),rs=zD b/\bif bif b_1 then true else !b then c16_fq18 else bif qE d then qD d/\Nn Tryz.prog c 39 (OF (wM d)::c16_fq17) (c32_oq1 l l_1 l_2 l_3 l_4 l_5 l_6::zR n l_7 l_8 l_9 l_10 n_1) λ(rs:ON D) (H':ON Box)=>∃(b:Bool),rs=zD b/\∃(l:ON D)(l_11:ON D)(l_12:ON D)(l_13:ON D)(l_14:ON D)(l_15:ON D)(l_16:ON D)(n:Int)(l_17:ON D)(l_18:ON D)(l_19:ON D)(l_20:ON D)(n_2:Int),H'=c32_oq1 l l_11 l_12 l_13 l_14 l_15 l_16::zR n l_17 l_18 l_19 l_20 n_2/\Nn Tryz.prog c 38 [OF (wM d),.clo 39 [] c16_fq17] (c32_oq1 l l_11 l_12 l_13 l_14 l_15 l_16::zR n l_17 l_18 l_19 l_20 n_2) λ(rs:ON D) (H':ON Box)=>H'=c32_oq1 l l_11 l_12 l_13 l_14 l_15 l_16::zR n l_17 l_18 l_19 l_20 n_2/\∃(b_2:Bool),rs=zD b_2/\bif bif b then true else !b_2 then c16_fq18 else NL else qC c l_7 l_8 n
theorem Qd (s:Sc) (r:Ru) (hL:s.lessons.length<=1000000000) (fz:ON Int) (rows:ON D) (h c:Int) (h18:OB Tryz.prog G 18 [s.d,wh (M4 s.lessons.length ⟨0,0⟩),.sl [r.d]] (· = [.int .i64 h,.int .i64 c,.int .i64 0])) (h29:OB Tryz.prog G 29 [(⟨s,[r],fz⟩:Pn).d] (· = [dB rows,.bool true])):OB Tryz.prog G 16 [(⟨s,[r],fz⟩:Pn).d,.agg [.int .i64 1,.sl [],.sl [.sl []]]] (· = [.bool true]):=by
 unfold dB at h29;unfold wh at h18;rw[yc]at *;rw[zf]at h18;refine zr (LX [(10,zN Tryz.prog G (LX []) (zz (z6 Tryz.f16) 0) 2),(16,zN Tryz.prog G (LX []) (zz (z6 Tryz.f16) 1) 2)]) Tryz.func16 ⟨_,rfl⟩ (ah (xl zK) (xl zK)) ?_;apply @z7 _ ((xU s r fz=xU s r fz/\0<=xU s r fz/\xU s r fz<=1000000000/\(↑16:Int)*xU s r fz<=281474976710656)/\OB Tryz.prog G 18 [NY [.sl (OM Nx (Ni (y3 s r fz))),.sl (OM N6 (Nh (y3 s r fz))),.sl (OM N9 (Nd (y3 s r fz))),.sl (OM Ny (Nb (y3 s r fz))),.sl (uz s r fz)],.agg [.sl (M4 (N1 (xU s r fz)) (NY (Mx [OH .i64 0,.int .i64 0])))],vO r] λ(rs:ON D)=>∃(n:Int)(n_1:Int)(n_2:Int),rs=[OH .i64 n,.int .i64 n_1,.int .i64 n_2]/\bif bif n_2 != 0 then true else bif (1:Int) != 1 then(1:Int) != 3 else false then c16_fq18 else OB Tryz.prog G 29 [NY [.sl (OM Nx (Ni (y3 s r fz))),.sl (OM N6 (Nh (y3 s r fz))),.sl (OM N9 (Nd (y3 s r fz))),.sl (OM Ny (Nb (y3 s r fz))),.sl (uz s r fz),vO r,.sl (OM intD (ML (I3 s [r] fz)))]] λ(rs:ON D)=>∃(l:ON D)(l_1:ON D)(n:Int)(b:Bool),rs=vN l l_1 n::zD b/\Nn Tryz.prog G 36 [OF (.sl []),.clo 30 [] c16_fq17] [Ns 32 [.d (.sl (OM Nx (Ni (y3 s r fz)))),.d (.sl (OM N6 (Nh (y3 s r fz)))),.d (.sl (OM N9 (Nd (y3 s r fz)))),.d (.sl (OM Ny (Nb (y3 s r fz)))),.d (.sl (uz s r fz)),.d (vO r),.d (.sl (OM intD (ML (I3 s [r] fz))))],.cells 57 [.d (.int .i64 1),.d (.sl []),.d (.sl [OE []])],.cells 95 (nF l l_1 n)] λ(rs:ON D) (H':ON Box)=>∃(b_1:Bool),rs=zD b_1/\∃(l:ON D)(l_2:ON D)(l_3:ON D)(l_4:ON D),∃ (l_5:ON D),∃(l_6:ON D)(l_7:ON D)(n:Int)(l_8:ON D)(l_9:ON D)(l_10:ON D)(l_11:ON D)(n_3:Int),H'=c32_oq1 l l_2 l_3 l_4 l_5 l_6 l_7::zR n l_8 l_9 l_10 l_11 n_3/\Nn Tryz.prog G 36 [OF (.sl l_9),.clo 30 [] c16_fq17] (c32_oq1 l l_2 l_3 l_4 l_5 l_6 l_7::zR n l_8 l_9 l_10 l_11 n_3) λ(rs:ON D) (H':ON Box)=>H'=c32_oq1 l l_2 l_3 l_4 l_5 l_6 l_7::zR n l_8 l_9 l_10 l_11 n_3/\∃(b_2:Bool),rs=zD b_2/\bif bif b_1 then true else b_2 then c16_fq18 else bif b then bif uA l_8 then vM l_8/\OB Tryz.prog G 37 [vN l_10 l_11 n_3,xk l_8] λ(rs:ON D)=>∃(b:Bool),rs=zD b/\Nn Tryz.prog G 38 (OF (xk l_8)::qF l_10 l_11 n_3) [] λ(rs:ON D) (H':ON Box)=>H'=[]/\∃(b_3:Bool),rs=zD b_3/\bif bif b then true else !b_3 then c16_fq18 else bif qE l_8 then qD l_8/\OB Tryz.prog G 37 [vN l_10 l_11 n_3,wM l_8] λ(rs:ON D)=>∃(b:Bool),rs=zD b/\Nn Tryz.prog G 38 (OF (wM l_8)::qF l_10 l_11 n_3) [] λ(rs:ON D) (H':ON Box)=>H'=[]/\∃(b_4:Bool),rs=zD b_4/\bif bif b then true else !b_4 then c16_fq18 else NL else bif uA l_9 then vM l_9/\Nn Tryz.prog G 39 (OF (xk l_9)::c16_fq17) (c32_oq1 l l_2 l_3 l_4 l_5 l_6 l_7::zR n l_8 l_9 l_10 l_11 n_3) λ(rs:ON D) (H':ON Box)=>nE rs H' G l_9 else qC G l_8 l_9 n else bif uA l_9 then vM l_9/\Nn Tryz.prog G 39 (OF (xk l_9)::c16_fq17) (c32_oq1 l l_2 l_3 l_4 l_5 l_6 l_7::zR n l_8 l_9 l_10 l_11 n_3) λ(rs:ON D) (H':ON Box)=>nE rs H' G l_9 else qC G l_8 l_9 n else qC G l_8 l_9 n)
 ·kernel_rfl
 delta xU uz y3 vO c16_fq18 vN zD c16_fq17 nF c32_oq1 y8 zR uA vM xk qF qE c16_fq19 qD wM nE qC;have hrep:M4 (((s.lessons.map N8).length:Nat):Int).toNat (NY [OH .i64 0,OH .i64 0].reverse)=(M4 s.lessons.length (⟨0,0⟩:Pl)).map Nr:=by rw[I9,Nv,M1];rfl
 refine⟨⟨rfl,by omega,by simp only[Nv];omega,by simp only[Nv];omega⟩,?_⟩;refine Au (Q:=λrs=>rs=[.int .i64 h,.int .i64 c,.int .i64 0]) ?_ ?_
 ·rw[hrep];exact h18
 rintro _ rfl;refine⟨_,_,_,rfl,?_⟩;refine h29.use ⟨_,_,_,_,rfl,?_⟩;refine(Si s r fz ([]) ([.sl []]) rows).mono ?_;rintro rs H' ⟨rfl,rfl⟩;refine⟨_,rfl,_,_,_,_,_,_,_,_,_,_,_,_,_,rfl,?_⟩;refine(Sg s r fz ([]) ([.sl []]) rows).mono ?_;rintro rs H' ⟨rfl,rfl⟩;refine⟨rfl,_,rfl,?_⟩;refine BJ ⟨by decide,rfl⟩ ?_;refine(OU s r fz [] [.sl []] rows).mono ?_;rintro rs H' ⟨rfl,rfl⟩;refine⟨_,rfl,_,_,_,_,_,_,_,_,_,_,_,_,_,rfl,(Qe s r fz [] [.sl []] rows).mono ?_⟩;rintro rs H' ⟨rfl,rfl⟩;refine⟨rfl,_,rfl,?_⟩;exact c41_0.use ⟨_,rfl,c41_1.use ⟨_,rfl,rfl⟩⟩
def c16_cq1:Prop:=[OD false]=[OD false]
def nD (a:Nat->OK (ON D)) (b:ON D) (c:ON D) (d:Int):Prop:=OB Tryz.prog a 41 [OE b,.sl c] λ(rs:ON D)=>∃(b_1:Bool),rs=zD b_1/\OB Tryz.prog a 41 [OE c,.sl b] λ(rs:ON D)=>∃(b:Bool),rs=zD b/\[OD (bif d==3 then true else bif b_1 then b else false)]=[OD false]
def dA (a:ON D) (b:ON Box) (c:Nat->OK (ON D)) (d:ON D):Prop:= ∃(b_1:Bool),a=zD b_1/\∃(l:ON D)(l_1:ON D)(l_2:ON D)(l_3:ON D)(l_4:ON D)(l_5:ON D)(l_6:ON D)(n:Int)(l_7:ON D)(l_8:ON D)(l_9:ON D)(l_10:ON D)(n_1:Int),b=c32_oq1 l l_1 l_2 l_3 l_4 l_5 l_6::zR n l_7 l_8 l_9 l_10 n_1/\Nn Tryz.prog c 38 [OF (xk d),.clo 39 [] c16_fq17] (c32_oq1 l l_1 l_2 l_3 l_4 l_5 l_6::zR n l_7 l_8 l_9 l_10 n_1) λ(rs:ON D) (H':ON Box)=>H'=c32_oq1 l l_1 l_2 l_3 l_4 l_5 l_6::zR n l_7 l_8 l_9 l_10 n_1/\∃(b:Bool),rs=zD b/\bif bif b_1 then true else !b then c16_cq1 else bif qE d then qD d/\Nn Tryz.prog c 39 (OF (wM d)::c16_fq17) (c32_oq1 l l_1 l_2 l_3 l_4 l_5 l_6::zR n l_7 l_8 l_9 l_10 n_1) λ(rs:ON D) (H':ON Box)=>∃(b:Bool),rs=zD b/\∃(l:ON D)(l_11:ON D)(l_12:ON D)(l_13:ON D)(l_14:ON D)(l_15:ON D)(l_16:ON D)(n:Int)(l_17:ON D)(l_18:ON D)(l_19:ON D)(l_20:ON D)(n_2:Int),H'=c32_oq1 l l_11 l_12 l_13 l_14 l_15 l_16::zR n l_17 l_18 l_19 l_20 n_2/\Nn Tryz.prog c 38 [OF (wM d),.clo 39 [] c16_fq17] (c32_oq1 l l_11 l_12 l_13 l_14 l_15 l_16::zR n l_17 l_18 l_19 l_20 n_2) λ(rs:ON D) (H':ON Box)=>H'=c32_oq1 l l_11 l_12 l_13 l_14 l_15 l_16::zR n l_17 l_18 l_19 l_20 n_2/\∃(b_2:Bool),rs=zD b_2/\bif bif b then true else !b_2 then c16_cq1 else NL else nD c l_7 l_8 n
theorem Qc (s:Sc) (r:Ru) (hL:s.lessons.length<=1000000000) (fz:ON Int) (rows:ON D) (h c:Int) (h18:OB Tryz.prog G 18 [s.d,wh (M4 s.lessons.length ⟨0,0⟩),.sl [r.d]] (· = [.int .i64 h,.int .i64 c,.int .i64 0])) (h29:OB Tryz.prog G 29 [(⟨s,[r],fz⟩:Pn).d] (· = [dB rows,.bool true])):OB Tryz.prog G 16 [(⟨s,[r],fz⟩:Pn).d,.agg [.int .i64 1,.sl [.sl []],.sl []]] (· = [.bool false]):=by
 unfold dB at h29;unfold wh at h18;rw[yc]at *;rw[zf]at h18;refine zr (LX [(10,zN Tryz.prog G (LX []) (zz (z6 Tryz.f16) 0) 2),(16,zN Tryz.prog G (LX []) (zz (z6 Tryz.f16) 1) 2)]) Tryz.func16 ⟨_,rfl⟩ (ah (xl zK) (xl zK)) ?_;apply @z7 _ ((xU s r fz=xU s r fz/\0<=xU s r fz/\xU s r fz<=1000000000/\(↑16:Int)*xU s r fz<=281474976710656)/\OB Tryz.prog G 18 [NY [.sl (OM Nx (Ni (y3 s r fz))),.sl (OM N6 (Nh (y3 s r fz))),.sl (OM N9 (Nd (y3 s r fz))),.sl (OM Ny (Nb (y3 s r fz))),.sl (uz s r fz)],.agg [.sl (M4 (N1 (xU s r fz)) (NY (Mx [OH .i64 0,.int .i64 0])))],vO r] λ(rs:ON D)=>∃(n:Int)(n_1:Int)(n_2:Int),rs=[OH .i64 n,.int .i64 n_1,.int .i64 n_2]/\bif bif n_2 != 0 then true else bif (1:Int) != 1 then(1:Int) != 3 else false then c16_cq1 else OB Tryz.prog G 29 [NY [.sl (OM Nx (Ni (y3 s r fz))),.sl (OM N6 (Nh (y3 s r fz))),.sl (OM N9 (Nd (y3 s r fz))),.sl (OM Ny (Nb (y3 s r fz))),.sl (uz s r fz),vO r,.sl (OM intD (ML (I3 s [r] fz)))]] λ(rs:ON D)=>∃(l:ON D)(l_1:ON D)(n:Int)(b:Bool),rs=vN l l_1 n::zD b/\Nn Tryz.prog G 36 [OF (.sl [OE []]),.clo 30 [] c16_fq17] [Ns 32 [.d (.sl (OM Nx (Ni (y3 s r fz)))),.d (.sl (OM N6 (Nh (y3 s r fz)))),.d (.sl (OM N9 (Nd (y3 s r fz)))),.d (.sl (OM Ny (Nb (y3 s r fz)))),.d (.sl (uz s r fz)),.d (vO r),.d (.sl (OM intD (ML (I3 s [r] fz))))],.cells 57 [.d (.int .i64 1),.d (.sl [OE []]),.d (.sl [])],.cells 95 (nF l l_1 n)] λ(rs:ON D) (H':ON Box)=>∃(b_1:Bool),rs=zD b_1/\∃(l:ON D)(l_2:ON D)(l_3:ON D)(l_4:ON D)(l_5:ON D)(l_6:ON D)(l_7:ON D)(n:Int)(l_8:ON D)(l_9:ON D)(l_10:ON D)(l_11:ON D)(n_3:Int),H'=c32_oq1 l l_2 l_3 l_4 l_5 l_6 l_7::zR n l_8 l_9 l_10 l_11 n_3/\Nn Tryz.prog G 36 [OF (.sl l_9),.clo 30 [] c16_fq17] (c32_oq1 l l_2 l_3 l_4 l_5 l_6 l_7::zR n l_8 l_9 l_10 l_11 n_3) λ(rs:ON D) (H':ON Box)=>H'=c32_oq1 l l_2 l_3 l_4 l_5 l_6 l_7::zR n l_8 l_9 l_10 l_11 n_3/\∃(b_2:Bool),rs=zD b_2/\bif bif b_1 then true else b_2 then c16_cq1 else bif b then bif uA l_8 then vM l_8/\OB Tryz.prog G 37 [vN l_10 l_11 n_3,xk l_8] λ(rs:ON D)=>∃(b:Bool),rs=zD b/\Nn Tryz.prog G 38 (OF (xk l_8)::qF l_10 l_11 n_3) [] λ(rs:ON D) (H':ON Box)=>H'=[]/\∃(b_3:Bool),rs=zD b_3/\bif bif b then true else !b_3 then c16_cq1 else bif qE l_8 then qD l_8/\OB Tryz.prog G 37 [vN l_10 l_11 n_3,wM l_8] λ(rs:ON D)=>∃(b:Bool),rs=zD b/\Nn Tryz.prog G 38 (OF (wM l_8)::qF l_10 l_11 n_3) [] λ(rs:ON D) (H':ON Box)=>H'=[]/\∃(b_4:Bool),rs=zD b_4/\bif bif b then true else !b_4 then c16_cq1 else NL else bif uA l_9 then vM l_9/\Nn Tryz.prog G 39 (OF (xk l_9)::c16_fq17) (c32_oq1 l l_2 l_3 l_4 l_5 l_6 l_7::zR n l_8 l_9 l_10 l_11 n_3) λ(rs:ON D) (H':ON Box)=>dA rs H' G l_9 else nD G l_8 l_9 n else bif uA l_9 then vM l_9/\Nn Tryz.prog G 39 (OF (xk l_9)::c16_fq17) (c32_oq1 l l_2 l_3 l_4 l_5 l_6 l_7::zR n l_8 l_9 l_10 l_11 n_3) λ(rs:ON D) (H':ON Box)=>dA rs H' G l_9 else nD G l_8 l_9 n else nD G l_8 l_9 n)
 ·kernel_rfl
 delta xU uz y3 vO c16_fq18 vN zD c16_fq17 nF c32_oq1 y8 zR uA vM xk qF qE c16_fq19 qD wM nE qC c16_cq1 dA nD;have hrep:M4 (((s.lessons.map N8).length:Nat):Int).toNat (NY [OH .i64 0,OH .i64 0].reverse)=(M4 s.lessons.length (⟨0,0⟩:Pl)).map Nr:=by rw[I9,Nv,M1];rfl
 refine⟨⟨rfl,by omega,by simp only[Nv];omega,by simp only[Nv];omega⟩,?_⟩;refine Au (Q:=λrs=>rs=[.int .i64 h,.int .i64 c,.int .i64 0]) ?_ ?_
 ·rw[hrep];exact h18
 rintro _ rfl;refine⟨_,_,_,rfl,?_⟩;refine h29.use ⟨_,_,_,_,rfl,?_⟩;refine(Sg s r fz ([.sl []]) ([]) rows).mono ?_;rintro rs H' ⟨rfl,rfl⟩;refine⟨_,rfl,_,_,_,_,_,_,_,_,_,_,_,_,_,rfl,?_⟩;refine(Si s r fz ([.sl []]) ([]) rows).mono ?_;rintro rs H' ⟨rfl,rfl⟩;refine⟨rfl,_,rfl,?_⟩;refine BJ ⟨by decide,rfl⟩ ?_;refine(On rows).use ⟨_,rfl,(Qf rows).mono ?_⟩;rintro rs H' ⟨rfl,rfl⟩;exact⟨rfl,_,rfl,(rfl:[OD false]=[OD false])⟩
end
theorem exS_fits:exS.Fits:=by constructor<;>decide
theorem exP_fits:exP.Fits:=⟨exS_fits,by decide,by decide,by decide⟩
def rowsE:ON D:=[.sl [.bool true,.bool true],.sl [.bool true,.bool false]]
theorem ex_insts:sT exS exR=([[0,0],[0,1]],0):=by kernel_rfl
def vE (j k:Nat):Bool:=iC (iC (true,true) (true,false) j).1 (iC (true,true) (true,false) j).2 k
def SF (j:Nat):ON Ev:=QM ⟨[108],1⟩ ⟨[115],2⟩ (iC (0,0) (0,1) j)
theorem ex_hold00:w6 exS w1 (SF 0) exR.body=(vE 0 0,0):=by kernel_rfl
theorem ex_hold01:w6 exS w2 (SF 0) exR.body=(vE 0 1,0):=by kernel_rfl
theorem ex_hold10:w6 exS w1 (SF 1) exR.body=(vE 1 0,0):=by kernel_rfl
theorem ex_hold11:w6 exS w2 (SF 1) exR.body=(vE 1 1,0):=by kernel_rfl
theorem SE (j k:Nat) (hj:j<2) (hk:k<2):Pre exS (iC w1 w2 k) (SF j) exR.body:=by
 have hj2:j=0∨j=1:=by omega
 have hk2:k=0∨k=1:=by omega
 rcases hj2 with rfl|rfl<;>rcases hk2 with rfl|rfl<;>exact⟨by kernel_rfl,by kernel_rfl,M3 (by kernel_rfl),by decide,rfl,M3 (by kernel_rfl)⟩
theorem Tv (j k:Nat) (hj:j<2) (hk:k<2):w6 exS (iC w1 w2 k) (SF j) exR.body=(vE j k,0):=by
 have hj2:j=0∨j=1:=by omega
 have hk2:k=0∨k=1:=by omega
 rcases hj2 with rfl|rfl<;>rcases hk2 with rfl|rfl
 ·exact ex_hold00
 ·exact ex_hold01
 ·exact ex_hold10
 ·exact ex_hold11
section
variable {M:Mk}
theorem Qb (hM:M.Ok) (hF:M.Fn) (m:Int):OB Tryz.prog (GA M m) 29 [exP.d] (· = [dB rowsE,.bool true]):=by have h13:=S6 (iE M m) exS 4096 exS_fits (by decide);rw[ex_all]at h13;have h69:=h69 hM m exS exR exS_fits (M3 (by kernel_rfl)) (by decide) (by decide) (M3 (by kernel_rfl));rw[ex_insts]at h69;refine O7 (G:=GA M m) exS exR [0] w1 w2 ⟨[108],1⟩ ⟨[115],2⟩ (0,0) (0,1) (true,true) (true,false) rfl h13 h69 λj k hj hk=>?_;have h70:=h70 hM hF m exS (iC w1 w2 k) (SF j) exR.body exS_fits (by rcases (show k=0∨k=1 by omega)with rfl|rfl<;>decide) (by rcases (show j=0∨j=1 by omega)with rfl|rfl<;>exact M3 (by kernel_rfl)) (by rcases (show j=0∨j=1 by omega)with rfl|rfl<;>decide) (λ_=>SE j k hj hk);rw[Tv j k hj hk]at h70;exact h70
theorem O8 (hM:M.Ok) (hF:M.Fn) (m:Int):OB Tryz.prog (GA M m) 16 [exP.d,.agg [.int .i64 1,.sl [],.sl [.sl []]]] (· = [.bool true]):=by have h18:=h18 hM hF m exS w1 [exR] exS_fits (by decide) (by decide) (by decide);rw[ex_e1]at h18;exact Qd (G:=GA M m) exS exR (by decide) [0] rowsE _ _ h18 (Qb hM hF m)
theorem O9 (hM:M.Ok) (hF:M.Fn) (m:Int):OB Tryz.prog (GA M m) 16 [exP.d,.agg [.int .i64 1,.sl [.sl []],.sl []]] (· = [.bool false]):=by have h18:=h18 hM hF m exS w1 [exR] exS_fits (by decide) (by decide) (by decide);rw[ex_e1]at h18;exact Qc (G:=GA M m) exS exR (by decide) [0] rowsE _ _ h18 (Qb hM hF m)
end
def Wi (p:Pn):ON D:=[.sl (p.sc.slots.map Nx),.sl (p.sc.rooms.map N6),.sl (p.sc.people.map N9),.sl (p.sc.groups.map Ny),.sl (p.sc.lessons.map N8),.sl (p.rules.map Na),.sl (p.frozen.map intD)]
def iO (k:Int) (p:Pn) (no:Int) (w:ON Pl) (cost:Int) (best:Bool):D:= .agg (.int .i64 k::(Wi p++[.sl [],.int .i64 no,.sl (w.map Nr),.int .i64 cost,.bool best,.int .i64 0,.int .i64 0,.int .i64 0,.sl [],.sl [],.int .i64 0,.sl [],.sl [],.int .i64 0,.int .i64 0]))
section
variable {M:Mk}
def c14q1:ON D:=[OH .i64 0]
def c14q6:ON D:=[OE [],.sl []]
def c14q5:D:=NZ (Mm (Mn (Mi #[(108:UInt8)])))
def c14q4:D:=NZ (Mm (Mn (Mi #[(115:UInt8)])))
def c14q3:D:=NZ (Mm (Mn (Mi #[])))
def c14q2:Rm:=Rm.mk [(114:UInt8)] 0 0 []
theorem c14 (m:Int):OB Tryz.prog (GA M m) 14 [] (· = [exP.d]):=by
 refine zr (LX []) Tryz.func14 ⟨_,rfl⟩ zK ?_;apply @z7 _ ([NY [.sl [NY (NZ (Mm (Mn (Mi #[(97:UInt8)])))::OH .i64 0::c14q1),.agg [.str (Mm (Mn (Mi #[(98:UInt8)]))),.int .i64 0,.int .i64 1]],.sl [NY [.str (Mm (Mn (Mi #[(114:UInt8)]))),.int .i64 0,.int .i64 0,.sl []]],.sl [],.sl [],.sl [NY (NZ (Mm (Mn (Mi #[(120:UInt8)])))::c14q6)],.sl [NY [.str (Mm (Mn (Mi #[(101:UInt8),(97:UInt8),(114:UInt8),(108:UInt8),(121:UInt8)]))),.bool false,.int .i64 3,.sl [NY [c14q5,.int .i64 1],.agg [c14q4,.int .i64 2]],.int .i64 13,c14q3,.int .i64 0,.sl [],.sl [],.sl [NY (OH .i64 3::c14q3::OH .i64 0::OE [NY (OH .i64 2::c14q5::c14q1),.agg (OH .i64 2::c14q4::c14q1)]::c14q6),.agg (OH .i64 9 :: NZ (Mm (Mn (Mi #[(61:UInt8)])))::OH .i64 0::OE [NY (OH .i64 4::c14q4::c14q1),.agg (OH .i64 1::c14q3::c14q1)]::c14q6)]]],.sl c14q1]]=[NY [.sl [NY [.str (Sl.name (H6 [(97:UInt8)] 0 0)),.int .i64 (Sl.day (H6 [(97:UInt8)] 0 0)),.int .i64 (Sl.hour (H6 [(97:UInt8)] 0 0))],.agg [.str (Sl.name (H6 [(98:UInt8)] 0 1)),.int .i64 (Sl.day (H6 [(98:UInt8)] 0 1)),.int .i64 (Sl.hour (H6 [(98:UInt8)] 0 1))]],.sl [NY [.str (Rm.name c14q2),.int .i64 (Rm.house c14q2),.int .i64 (Rm.seats c14q2),.sl []]],.sl [],.sl [],.sl [NY (NZ (Le.name (Le.mk [(120:UInt8)] [] []))::c14q6)],.sl [NY [.str (Kx exR),.bool (LM exR),.int .i64 (LD exR),.sl [NY [.str (Bd.name (Fe [(108:UInt8)] 1)),.int .i64 (Bd.sort (Fe [(108:UInt8)] 1))],.agg [.str (Bd.name (Fe [(115:UInt8)] 2)),.int .i64 (Bd.sort (Fe [(115:UInt8)] 2))]],.int .i64 (NU (M9 exR)),.str (NG (M9 exR)),.int .i64 (NA (M9 exR)),.sl [],.sl [],.sl [NY (OH .i64 3::NZ []::OH .i64 0::OE [NY [.int .i64 (MA (KC 2 [(108:UInt8)] 0)),.str (MI (KC 2 [(108:UInt8)] 0)),.int .i64 (Ks (KC 2 [(108:UInt8)] 0))],.agg [.int .i64 (MA (KC 2 [(115:UInt8)] 0)),.str (MI (KC 2 [(115:UInt8)] 0)),.int .i64 (Ks (KC 2 [(115:UInt8)] 0))]]::c14q6),.agg (OH .i64 9::NZ [(61:UInt8)]::OH .i64 0::OE [NY [.int .i64 (MA (KC 4 [(115:UInt8)] 0)),.str (MI (KC 4 [(115:UInt8)] 0)),.int .i64 (Ks (KC 4 [(115:UInt8)] 0))],.agg [.int .i64 (MA (KC 1 [] 0)),.str (MI (KC 1 [] 0)),.int .i64 (Ks (KC 1 [] 0))]]::c14q6)]]],.sl c14q1]])
 ·kernel_rfl
 delta c14q1 c14q6 c14q5 c14q4 c14q3 c14q2;kernel_rfl
def iN (a:Pn):D:=NY [.sl (OM Nx (Ni (NT a))),.sl (OM N6 (Nh (NT a))),.sl (OM N9 (Nd (NT a))),.sl (OM Ny (Nb (NT a))),.sl (OM N8 (Nj (NT a))),.sl (OM Na (Lu a)),.sl (OM intD (ML a))]
def c8 (a:Pn) (b:ON Pl):ON D:=[iN a,.agg [.sl []],.agg [.sl (OM Nr b)]]
theorem Qa (hM:M.Ok) (hF:M.Fn) (m:Int) (p:Pn) (no:Int) (w:ON Pl) (cost:Int) (best:Bool) (hp:p.Fits) (hw:w.length<1099511627776):OB Tryz.prog (GA M m) 300 [iO 1 p no w cost best] (· = [.bool ((zH p w).1&&((zH p w).2==cost&&(wU p [] w&&(!best||xc p [] w))))]):=by
 have h7:=h7 hM hF m p w hp hw;have h20:=h20 hM m p [] w hp (by decide) hw;have h9:=h9 hM hF m p [] w hp (by decide) hw;unfold iO Wi;rw[yc]at *;unfold wh at *;refine zr (LX []) Tryz.func300 ⟨_,rfl⟩ zK ?_;apply @z7 _ (OB Tryz.prog (GA M m) 7 [iN p,.agg [.sl (OM Nr w)]] λ(rs:ON D)=>∃(b:Bool)(n:Int),rs=[OD b,.int .i64 n]/\OB Tryz.prog (GA M m) 20 (c8 p w) λ(rs:ON D)=>∃(b_1:Bool),rs=[OD b_1]/\OB Tryz.prog (GA M m) 9 (c8 p w) λ(rs:ON D)=>∃(b_2:Bool),rs=[OD b_2]/\[OD (bif bif bif b then n==cost else false then b_1 else false then bif !best then true else b_2 else false)]=[OD (N7 (zH p w)&&(NV (zH p w)==cost&&(wU p [] w&&(!best||xc p [] w))))])
 ·kernel_rfl
 delta iN c8;refine h7.use ⟨_,_,rfl,h20.use ⟨_,rfl,h9.use ⟨_,rfl,?_⟩⟩⟩;simp only[zM,yi,Bool.and_assoc]
theorem Oz (hM:M.Ok) (hF:M.Fn) (m:Int) (p:Pn) (no:Int) (w:ON Pl) (cost:Int) (best:Bool) (hp:p.Fits):OB Tryz.prog (GA M m) 301 [iO 2 p no w cost best] (· = [.bool (sK p [])]):=by
 have h11:=h11 hM hF m p [] hp (by decide);unfold iO Wi;rw[yc]at *;unfold wh at *;refine zr (LX []) Tryz.func301 ⟨_,rfl⟩ zK ?_;apply @z7 _ (OB Tryz.prog (GA M m) 11 [iN p,.agg [.sl []]] λ(rs:ON D)=>∃(b:Bool),rs=[OD b]/\[OD b]=[OD (sK p [])])
 ·kernel_rfl
 delta iN c8;exact h11.use ⟨_,rfl,rfl⟩
theorem QZ (hF:M.Fn) (m:Int) (p:Pn) (no:Int) (w:ON Pl) (cost:Int) (best:Bool) (b:Bool) (h:OB Tryz.prog (GA M m) 300 [iO 1 p no w cost best] (· = [.bool b])):OB Tryz.prog (GA M m) 15 [iO 1 p no w cost best] (· = [.bool b]):=by
 unfold iO Wi at *;refine zr (LX []) Tryz.func15 ⟨_,rfl⟩ zK ?_;apply @z7 _ ((LV (IA M) λ(kv:D×D)=>sameKind (OH .i64 1) (N7 kv)&&Sh.ok Sh.fn (NV kv))=true/\∃(k:Nat),GJ ((λ(_:Lf)=>none) ()) (λ(val:D)=>(λ(val:D)=>(λ(x:D)=>some (D.toFn x)) val) val) (zX (IA M) (OH .i64 1))=some k/\s5 Tryz.prog k=true/\OB Tryz.prog (GA M m) k [NY (OH .i64 1::OE (OM Nx (Ni (NT p)))::OE (OM N6 (Nh (NT p)))::OE (OM N9 (Nd (NT p)))::OE (OM Ny (Nb (NT p)))::OE (OM N8 (Nj (NT p)))::OE (OM Na (Lu p))::OE (OM intD (ML p))::OE []::OH .i64 no::OE (OM Nr w)::OH .i64 cost::OD best::OH .i64 0::OH .i64 0::OH .i64 0::OE []::OE []::OH .i64 0::OE []::OE []::OH .i64 0::c14q1)] λ(rs:ON D)=>∃(b_1:Bool),rs=[OD b_1]/\[OD (bif IR (zX (IA M) (OH .i64 1))then b_1 else false)]=[OD b])
 ·kernel_rfl
 delta c14q1 c14q6 c14q5 c14q4 c14q3 c14q2;have e:=hF.akG 1;have e2:zX M.ak (.int .i64 1)=some (.fn 300):=e;rw[e2];exact⟨(by have h1:=hF.akA;rw[ND]at h1 ⊢;intro x hx;rw[oH];exact h1 x hx),300,rfl,by kernel_rfl,h.use ⟨_,rfl,rfl⟩⟩
theorem Oy (hF:M.Fn) (m:Int) (p:Pn) (no:Int) (w:ON Pl) (cost:Int) (best:Bool) (b:Bool) (h:OB Tryz.prog (GA M m) 301 [iO 2 p no w cost best] (· = [.bool b])):OB Tryz.prog (GA M m) 15 [iO 2 p no w cost best] (· = [.bool b]):=by
 unfold iO Wi at *;refine zr (LX []) Tryz.func15 ⟨_,rfl⟩ zK ?_;apply @z7 _ ((LV (IA M) λ(kv:D×D)=>sameKind (OH .i64 2) (N7 kv)&&Sh.ok Sh.fn (NV kv))=true/\∃(k:Nat),GJ ((λ(_:Lf)=>none) ()) (λ(val:D)=>(λ(val:D)=>(λ(x:D)=>some (D.toFn x)) val) val) (zX (IA M) (OH .i64 2))=some k/\s5 Tryz.prog k=true/\OB Tryz.prog (GA M m) k [NY (OH .i64 2::OE (OM Nx (Ni (NT p)))::OE (OM N6 (Nh (NT p)))::OE (OM N9 (Nd (NT p)))::OE (OM Ny (Nb (NT p)))::OE (OM N8 (Nj (NT p)))::OE (OM Na (Lu p))::OE (OM intD (ML p))::OE []::OH .i64 no::OE (OM Nr w)::OH .i64 cost::OD best::OH .i64 0::OH .i64 0::OH .i64 0::OE []::OE []::OH .i64 0::OE []::OE []::OH .i64 0::c14q1)] λ(rs:ON D)=>∃(b_1:Bool),rs=[OD b_1]/\[OD (bif IR (zX (IA M) (OH .i64 2))then b_1 else false)]=[OD b])
 ·kernel_rfl
 delta c14q1 c14q6 c14q5 c14q4 c14q3 c14q2;have e:=hF.akG 2;have e2:zX M.ak (.int .i64 2)=some (.fn 301):=e;rw[e2];exact⟨(by have h1:=hF.akA;rw[ND]at h1 ⊢;intro x hx;rw[oH];exact h1 x hx),301,rfl,by kernel_rfl,h.use ⟨_,rfl,rfl⟩⟩
def c5q7 (a:ON D) (b:ON D) (c:ON D) (d:ON D) (e:ON D) (f:ON D) (g:ON D):D:=NY [.sl a,.sl b,.sl c,.sl d,.sl e,.sl f,.sl g]
def c5q3:D:=NY [.sl [NY (OH .i64 1::c14q1)]]
def c5q6:ON D:=[c5q3]
def SD (a:ON D) (b:ON D) (c:ON D) (d:ON D) (e:ON D) (f:ON D) (g:ON D):ON D:=c5q7 a b c d e f g::c5q6
def c5q4:ON D:=[OE []]
def c5q5:D:=NY c5q4
def c5q2:ON D:=[NY [.sl [NY (OH .i64 0::c14q1)]]]
def iM (a:ON D) (b:Bool):Prop:=a=[OD b]
def c5q1:ON D:=OH .i64 0::OH .i64 0::OH .i64 0::OE []::OE []::OH .i64 0::OE []::OE []::OH .i64 0::c14q1
theorem c5 (hM:M.Ok) (hF:M.Fn) (m:Int):OB Tryz.prog (GA M m) 5 [] (· = [.bool true]):=by
 have c14:=c14 (M:=M) m;have h1:=h7 hM hF m exP w2 exP_fits (by decide);have h2:=h7 hM hF m exP [] exP_fits (by decide);have b1:=h9 hM hF m exP [] w1 exP_fits (by decide) (by decide);have b2:=h9 hM hF m exP [] w2 exP_fits (by decide) (by decide);have b3:=h9 hM hF m exP w2 w2 exP_fits (by decide) (by decide);have b4:=h9 hM hF m exP w2 w1 exP_fits (by decide) (by decide);have n1:=h11 hM hF m exP w2 exP_fits (by decide);rw[ex_h2]at h1;rw[ex_h0]at h2;rw[ex_b1]at b1;rw[ex_b2]at b2;rw[ex_b3]at b3;rw[ex_b4]at b4;rw[ex_n1]at n1;have e1:=QZ hF m exP 1 w1 0 true _ (Qa hM hF m exP 1 w1 0 true exP_fits (by decide));rw[ex_h1,ex_o1,ex_b1]at e1;have e2:=QZ hF m exP 1 w2 2 false _ (Qa hM hF m exP 1 w2 2 false exP_fits (by decide));rw[ex_h2,ex_o2,ex_b2]at e2;have e3:=Oy hF m exP 0 [] 0 false _ (Oz hM hF m exP 0 [] 0 false exP_fits);rw[ex_n0]at e3;have y1:=O8 hM hF m;have y2:=O9 hM hF m;generalize exP=p at *;unfold iO Wi at *;rw[yc]at *;unfold wh at *;refine zn Tryz.func5 ⟨_,rfl⟩ ?_;apply @z7 _ (OB Tryz.prog (GA M m) 14 [] λ(rs:ON D)=>∃(l:ON D)(l_1:ON D)(l_2:ON D)(l_3:ON D)(l_4:ON D)(l_5:ON D)(l_6:ON D),rs=[c5q7 l l_1 l_2 l_3 l_4 l_5 l_6]/\OB Tryz.prog (GA M m) 7 (SD l l_1 l_2 l_3 l_4 l_5 l_6) λ(rs:ON D)=>∃(b:Bool)(n:Int),rs=[OD b,.int .i64 n]/\OB Tryz.prog (GA M m) 7 [c5q7 l l_1 l_2 l_3 l_4 l_5 l_6,c5q5] λ(rs:ON D)=>∃(b_1:Bool)(n_1:Int),rs=[OD b_1,.int .i64 n_1]/\OB Tryz.prog (GA M m) 9 (c5q7 l l_1 l_2 l_3 l_4 l_5 l_6::c5q5::c5q2) λ(rs:ON D)=>∃(b_2:Bool),iM rs b_2/\OB Tryz.prog (GA M m) 9 (c5q7 l l_1 l_2 l_3 l_4 l_5 l_6::c5q5::c5q6) λ(rs:ON D)=>∃(b_3:Bool),iM rs b_3/\OB Tryz.prog (GA M m) 9 (c5q7 l l_1 l_2 l_3 l_4 l_5 l_6::c5q3::c5q6) λ(rs:ON D)=>∃(b_4:Bool),iM rs b_4/\OB Tryz.prog (GA M m) 9 (c5q7 l l_1 l_2 l_3 l_4 l_5 l_6::c5q3::c5q2) λ(rs:ON D)=>∃(b_5:Bool),iM rs b_5/\OB Tryz.prog (GA M m) 15 [NY (OH .i64 1::OE l::OE l_1::OE l_2::OE l_3::OE l_4::OE l_5::OE l_6::OE []::OH .i64 1::OE [NY (OH .i64 0::c14q1)]::OH .i64 0::OD true::c5q1)] λ(rs:ON D)=>∃(b_6:Bool),iM rs b_6/\OB Tryz.prog (GA M m) 15 [NY (OH .i64 1::OE l::OE l_1::OE l_2::OE l_3::OE l_4::OE l_5::OE l_6::OE []::OH .i64 1::OE [NY (OH .i64 1::c14q1)]::OH .i64 2::OD false::c5q1)] λ(rs:ON D)=>∃(b_7:Bool),iM rs b_7/\OB Tryz.prog (GA M m) 15 [NY (OH .i64 2::OE l::OE l_1::OE l_2::OE l_3::OE l_4::OE l_5::OE l_6::OE []::OH .i64 0::OE []::OH .i64 0::OD false::c5q1)] λ(rs:ON D)=>∃(b_8:Bool),iM rs b_8/\OB Tryz.prog (GA M m) 11 (SD l l_1 l_2 l_3 l_4 l_5 l_6) λ(rs:ON D)=>∃(b_9:Bool),iM rs b_9/\OB Tryz.prog (GA M m) 16 [c5q7 l l_1 l_2 l_3 l_4 l_5 l_6,.agg [.int .i64 1,.sl [],.sl c5q4]] λ(rs:ON D)=>∃(b_10:Bool),iM rs b_10/\OB Tryz.prog (GA M m) 16 [c5q7 l l_1 l_2 l_3 l_4 l_5 l_6,.agg (OH .i64 1::OE c5q4::c5q4)] λ(rs:ON D)=>∃(b_11:Bool),iM rs b_11/\[OD (bif bif bif bif bif bif bif bif b then n==3 else false then !b_1 else false then n_1==0 else false then bif bif bif b_2 then !b_3 else false then b_4 else false then !b_5 else false else false then bif bif b_6 then !b_7 else false then !b_8 else false else false then !b_9 else false then b_10 else false then !b_11 else false)]=[OD true])
 ·kernel_rfl
 delta c5q7 SD c5q6 c5q3 c14q1 c14q6 c14q5 c14q4 c14q3 c14q2 c5q5 c5q4 c5q2 iM c5q1;exact c14.use ⟨_,_,_,_,_,_,_,rfl,h1.use ⟨_,_,rfl,h2.use ⟨_,_,rfl,b1.use ⟨_,rfl,b2.use ⟨_,rfl,b3.use ⟨_,rfl,b4.use ⟨_,rfl,e1.use ⟨_,rfl,e2.use ⟨_,rfl,e3.use ⟨_,rfl,n1.use ⟨_,rfl,y1.use ⟨_,rfl,y2.use ⟨_,rfl,rfl⟩⟩⟩⟩⟩⟩⟩⟩⟩⟩⟩⟩⟩
end
section
variable {M:Mk}
def Tu (a:ON D) (b:Bool):Prop:=a=[OD b]
def f3q2:ON D:=[OD true]
def Tt (a:Pn):D:=NY [.sl (OM Nx (Ni (NT a))),.sl (OM N6 (Nh (NT a))),.sl (OM N9 (Nd (NT a))),.sl (OM Ny (Nb (NT a))),.sl (OM N8 (Nj (NT a))),.sl (OM Na (Lu a)),.sl (OM intD (ML a))]
def QY (a:Pn) (b:ON Pl):ON D:=[Tt a,.agg [.sl (OM Nr b)]]
theorem QX (p:Pn) (old:ON Pl) (l:ON (ON Pl)):0<=nB p old l/\nB p old l<=l.length:=by unfold nB;have:=ON.length_filter_le (xc p old) l;omega
def SC (a:Bool) (b:ON Pl):Bool:=bif !a then true else decide ((↑(OJ (OM Nr b)):Int)>70)
def Ts (a:Nat) (b:Pn):Prop:=a<=OJ (N7 (zB (NT b) 300))
def cy (a:Pn) (b:ON Pl) (c:Nat):Int:=nB a b (NW c (N7 (zB (NT a) 300)))
def Yq (a:Pn) (b:ON Pl) (c:Nat):Int:=cB a b (NW c (N7 (zB (NT a) 300)))
def S7 (a:Pn) (b:ON Pl):Prop:=(OM Nx (Ni (NT a))=OM Nx (Ni (NT a))/\OM N6 (Nh (NT a))=OM N6 (Nh (NT a))/\OM N9 (Nd (NT a))=OM N9 (Nd (NT a))/\OM Ny (Nb (NT a))=OM Ny (Nb (NT a))/\OM N8 (Nj (NT a))=OM N8 (Nj (NT a))/\OM Na (Lu a)=OM Na (Lu a)/\OM intD (ML a)=OM intD (ML a)/\OG)/\(OM Nr b=OM Nr b/\OG)/\OG
def SB (a:Nat) (b:ON D):Prop:=(0:Int)<=(a:Int)/\b[N1 (a:Int)]? = some (zk [NB] b (N1 (a:Int)))
def SA (a:Nat) (b:Nat):Prop:=Nl .i64 ((a:Int)+1)=(b:Int)/\OG
theorem f4 (hM:M.Ok) (hF:M.Fn) (m:Int) (p:Pn) (old:ON Pl) (hp:p.Fits) (ho:old.length<1099511627776):OB Tryz.prog (GA M m) 4 [p.d,wh old] (· = [.bool true]):=by
 have c5:=c5 hM hF m;have h6:=h6 (G:=GA M m) p hp;have h13:=S6 (G:=GA M m) (iE M m) p.sc 300 hp.sc (by decide);have h7:=λv hv=>h7 hM hF m p v hp hv;have h9:=λv hv=>h9 hM hF m p old v hp ho hv;have h11:=h11 hM hF m p old hp ho;rw[yc]at *;rw[zf,yq]at *;refine zr (LL [(11,zT (α:=Nat) Tryz.prog (GA M m) L0 0 (zz (z6 Tryz.f4) 0) [2,3,5] (λi=>i<=(zB p.sc 300).1.length) (λi=>(zB p.sc 300).1.length - i) (λi=>[(7,.d (.int .i64 (nB p old ((zB p.sc 300).1.take i)))),(8,.d (.int .i64 (cB p old ((zB p.sc 300).1.take i)))),(9,.d (.int .i64 i))]) (λH _=>H))]) Tryz.func4 ⟨_,rfl⟩ (zm zy) ?_;apply @z7 _ (OB Tryz.prog (GA M m) 5 [] λ(rs:ON D)=>∃(b:Bool),Tu rs b/\((!b)=true->[OD false]=f3q2)/\((!b)=false->OB Tryz.prog (GA M m) 6 [Tt p] λ(rs:ON D)=>∃(b:Bool),Tu rs b/\(SC b old=true->f3q2=f3q2)/\(SC b old=false->OB Tryz.prog (GA M m) 13 [NY [.sl (OM Nx (Ni (NT p))),.sl (OM N6 (Nh (NT p))),.sl (OM N9 (Nd (NT p))),.sl (OM Ny (Nb (NT p))),.sl (OM N8 (Nj (NT p)))],.int .i64 300] λ(rs:ON D)=>∃(l:ON D)(n:Int),rs=[OE l,.int .i64 n]/\((n != 0)=true->f3q2=f3q2)/\((n != 0)=false->∃(x0:Nat),Ts x0 p/\((N5 0 0=N5 0 0/\N5 1 0=N5 1 0/\l=l/\0=cy p old x0/\0=Yq p old x0/\(0:Int)=(x0:Int)/\OG)/\S7 p old)/\∀(x:Nat),Ts x p->(decide ((x:Int) < (↑(OJ l):Int))=true->SB x l/\OB Tryz.prog (GA M m) 9 [Tt p,.agg [.sl (OM Nr old)],zk [NB] l (N1 (x:Int))] λ(rs:ON D)=>∃(b:Bool),Tu rs b/\((!b)=true->∃(y:Nat),Ts y p/\OJ (N7 (zB (NT p) 300)) - y<OJ (N7 (zB (NT p) 300)) - x/\(N5 0 0=N5 0 0/\N5 1 0=N5 1 0/\l=l/\cy p old x=cy p old y/\Yq p old x=Yq p old y/\SA x y)/\S7 p old)/\((!b)=false->SB x l/\OB Tryz.prog (GA M m) 7 [Tt p,zk [NB] l (N1 (x:Int))] λ(rs:ON D)=>∃(b:Bool)(n:Int),rs=[OD b,.int .i64 n]/\((bif decide (cy p old x>0)then n != Yq p old x else false)=true->[OD false]=f3q2)/\((bif decide (cy p old x>0)then n != Yq p old x else false)=false->∃(y:Nat),Ts y p/\OJ (N7 (zB (NT p) 300)) - y<OJ (N7 (zB (NT p) 300)) - x/\(N5 0 0=N5 0 0/\N5 1 0=N5 1 0/\l=l/\Nl .i64 (cy p old x+1)=cy p old y/\n=Yq p old y/\SA x y)/\S7 p old)))/\(decide ((x:Int)<(↑(OJ l):Int))=false->OB Tryz.prog (GA M m) 11 (QY p old) λ(rs:ON D)=>∃(b:Bool),Tu rs b/\[OD ((cy p old x==0)==b)]=f3q2)))))
 ·kernel_rfl
 delta Tu f3q2 Tt QY SC Ts cy Yq S7 SB SA;refine c5.use ⟨_,rfl,λh=>(by cases h),λ_=>h6.mono ?_⟩;rintro rs ⟨b,rfl⟩;refine⟨b,rfl,λ_=>rfl,λ_=>h13.use ⟨_,_,rfl,λ_=>rfl,λhe=>?_⟩⟩;have he2:(zB p.sc 300).2=0:=by simpa using he
 refine⟨0,L6 _,⟨by and_intros<;>first|rfl|trivial,by and_intros<;>first|rfl|trivial⟩,λx hx=>⟨λhlt=>?_,λhge=>?_⟩⟩
 ·simp only[Nv,NR]at hlt;obtain⟨v,hz,hm⟩:=zt (l:=(zB p.sc 300).1) (x:=x) (by omega);have hsl:=hp.sc.lessons;have hv:v.length<1099511627776:=by rw[jD hm];exact hsl
  have hal:=jC (s:=p.sc) (m:=300) (by decide);have hnb:=QX p old ((zB p.sc 300).1.take x);rw[Kr]at hnb;have e1:Nl .i64 ((x:Int)+1)=((x+1:Nat):Int):=by rw[zu (by omega) (by omega)];rfl
  rw[M1,Zv hz];refine⟨⟨by omega,ee hz⟩,(h9 v hv).use ⟨_,rfl,λhb=>?_,λhb=>⟨⟨by omega,ee hz⟩,(h7 v hv).use ⟨_,_,rfl,λhc=>?_,λhc=>?_⟩⟩⟩⟩
  ·have hb2:¬xc p old v=true:=by simpa using hb
   refine⟨x+1,by omega,by omega,⟨rfl,rfl,rfl,?_,?_,e1,trivial⟩,by and_intros<;>first|rfl|trivial⟩
   ·rw[yp hz,X0,N2 hb2]
   ·rw[yp hz,X1,N2 hb2]
  ·have hb2:xc p old v=true:=by simpa using hb
   rw[zM,Bool.and_eq_true,NR]at hc;have:=RN (s:=p.sc) rfl he2 hz hb2 (by omega);rw[this]at hc;simp at hc
  ·have hb2:xc p old v=true:=by simpa using hb
   refine⟨x+1,by omega,by omega,⟨rfl,rfl,rfl,?_,?_,e1,trivial⟩,by and_intros<;>first|rfl|trivial⟩
   ·rw[yp hz,X0,Nf hb2,zu (by omega) (by omega)]
   ·rw[yp hz,X1,Nf hb2]
 ·simp only[Nv,M2]at hge;rw[MY (by omega)];refine h11.use ⟨_,rfl,?_⟩;rw[Ug he2];simp only[beq_self_eq_true]
end
section
open Go.Proofs.YtfegegkkdfkllaaGreatDoor (Rows.uptoBulk Rows.uptoBulkAll)
def cW (W:N4):Cx:=⟨[],λb o=>∃v,W.cell? ⟨b,o,none⟩=some v,λr=>∃es clk,W.heap[r]? = some (.map es clk)⟩
theorem OT (W:N4):HR (cW W) [] W where
 len:=rfl
 inj l l' b k k' h:=by simp[cW]at h
 box l b k x h:=by simp[cW]at h
 non l x h:=by simp[cW]at h
 lt l b k h:=by simp[cW]at h
 ilt b o h:=by
  obtain⟨v,hv⟩:=h;unfold Ko at hv;cases hb:W.heap[b]? with
  |none=>simp[hb]at hv
  |some x=>exact lK hb
 jlt r h:=by obtain⟨es,clk,h⟩:=h;exact lK h
 iap b o l k hi h:=by simp[cW]at h
 jap r l k hr h:=by simp[cW]at h
theorem lW {α:Type}{Q:Nat->α->Prop}:∀n,(∀i,i<n->∃a,Q i a)->∃zs:ON α,zs.length=n/\∀(i:Nat) a,zs[i]? = some a->Q i a
 |0,_=>⟨[],rfl,λi a h=>by simp at h⟩
 |n+1,h=>by
  obtain⟨zs,h1,h2⟩:=lW n λi hi=>h i (by omega);obtain⟨a,ha⟩:=h n (by omega);refine⟨zs++[a],by simp[h1],λi b hb=>?_⟩;rcases zw hb with hb|⟨rfl,rfl⟩
  ·exact h2 i b hb
  ·rw[h1];exact ha
theorem af {H α:Type}{wt:α->Nat}:∀{zs:ON α}{es:ON (Nk H×ON MB)},zs.length=es.length->(∀(i:Nat) a y,zs[i]? = some a->es[i]? = some y->wt a<=Rows.uptoBulk y.1)->(zs.map wt).sum<=Rows.uptoBulkAll (es.map (·.1))
 |[],[],_,_=>by simp
 |a::zs,y::es,hl,h=>by have:=af (zs:=zs) (es:=es) (by simpa using hl) λi b z hb hz=>h (i+1) b z (by simpa using hb) (by simpa using hz);have:=h 0 a y rfl rfl;simp only[Mf,Jo,Rows.uptoBulkAll];omega
 |[],_::_,hl,_=>by simp at hl
 |_::_,[],hl,_=>by simp at hl
section
variable {H:Type}{enc:TypeId×Value->H}{P:Ng}{W:N4}{held:Bool}
theorem yg {α:Type}(toD:α->D) (wt:α->Nat) {sz:Nat}(hs0:0<sz) (hsz:∀a,(toD a).cells.length=sz) {t e:TypeId}{fuel:Nat}{cs:ON Value}{x:Nk H×ON MB}(ht:P.underlying t=some (.slice e)) (hc:P.cellsOf e=sz) (helem:∀n cs' y,fuel=n+1->Mr enc P W 0 (λ_=>true) held n e cs'=some y->∃a:α,z8 (R1 (cW W).I (cW W).J W) cs' (toD a).cells/\wt a<=Rows.uptoBulk y.1) (h:Mr enc P W 0 (λ_=>true) held fuel t cs=some x):∃(zs:ON α) (v:Value),cs=[v]/\R1 (cW W).I (cW W).J W v (.sl (zs.map toD))/\(zs.map wt).sum+1<=Rows.uptoBulk x.1:=by
 rcases Nk.trod_slice ht h with⟨rfl,rfl⟩|⟨a,len,cap,elems,rest,n,hf,rfl,rfl,hb,hl,hm,hlen,hel,hsp,hns⟩
 ·exact⟨[],_,rfl,R1.nil,by simp[Rows.uptoBulk]⟩
 have hex:∀i,i<len->∃b:α,∃cs' y,W.cells? 0 (a.add (i*sz)) sz=some cs'/\elems[i]? = some y/\z8 (R1 (cW W).I (cW W).J W) cs' (toD b).cells/\wt b<=Rows.uptoBulk y.1:=by intro i hi;have h1:=hel i hi;rw[LR (by omega:i<elems.length),hc]at h1;obtain⟨cs',h2,h3⟩:=FX.1 h1;obtain⟨b,h4,h5⟩:=helem n cs' _ hf h3;exact⟨b,cs',_,h2,by simp[hlen,hi],h4,h5⟩
 obtain⟨zs,has,hQ⟩:=lW len hex;have hsum:(zs.map wt).sum<=Rows.uptoBulkAll (elems.map (·.1)):=af (by rw[has,hlen]) λi b y hb hy=>by obtain⟨cs',y',_,h2,_,h4⟩:=hQ i b hb;rw[hy]at h2;cases h2;exact h4
 refine⟨zs,_,rfl,?_,by simp only[Rows.uptoBulk];omega⟩;rcases Nat.eq_zero_or_pos len with h0|h0
 ·have:zs=[]:=ON.eq_nil_of_length_eq_zero (by omega);subst this;subst h0;exact R1.emp a cap
 ·have hspot:a=⟨a.block,a.off,none⟩:=by
   have hlt:0<zs.length:=by omega
   obtain⟨cs',y,h1,_,h3,_⟩:=hQ 0 zs[0] (by simp[hlt]);obtain⟨_,h5,h6⟩:=DB h1;have h7:=h6 0 hs0;have h8:(a.add (0*sz)).add 0=a:=by simp[Addr.add]
   rw[h8]at h7;have h9:0<cs'.length:=by omega
   rw[LR h9]at h7;unfold Ko at h7;split at h7
   ·split at h7
    ·cases h7
    ·rename_i hs;obtain⟨b,o,s⟩:=a;cases s with
     |none=>rfl
     |some q=>simp at hs
   ·cases h7
  rw[hspot];have key:∀i j d,z1 (zs.map toD) i j=some d->∃v,W.cell? ⟨a.block,a.off+i*sz+j,none⟩=some v/\R1 (cW W).I (cW W).J W v d:=by
   intro i j d hd;unfold z1 at hd;obtain⟨x,hx,hj⟩:=FX.1 hd;rw[M6]at hx;obtain⟨b,hb',rfl⟩:=KB.1 hx;obtain⟨cs',y,h1,_,h3,_⟩:=hQ i b hb';obtain⟨_,h5,h6⟩:=DB h1;obtain⟨v,hv,hr⟩:=h3.get hj;have hjl:j<sz:=by
    have:=hsz b;rcases M0 j (toD b).cells.length with h' |h'
    ·omega
    ·rw[My h']at hj;cases hj
   have h7:=h6 j hjl;rw[hv,Deep.add_add]at h7;have h8:a.add (i*sz+j)=⟨a.block,a.off+i*sz+j,none⟩:=by have h9:=xS a.block a.off (i*sz+j);rw[←hspot]at h9;rw[h9,Nat.add_assoc]
   rw[h8]at h7;exact⟨v,h7,hr⟩
  have e1:len=(zs.map toD).length:=by simp[has]
  rw[e1];refine R1.sl a.block a.off cap sz (zs.map toD) (λi j=>(W.cell? ⟨a.block,a.off+i*sz+j,none⟩).getD undef) ?_ ?_ ?_ (by simp[has];omega)
  ·intro d hd;obtain⟨b,_,rfl⟩:=Mj.1 hd;exact hsz b
  ·intro i j d hd;obtain⟨v,hv,_⟩:=key i j d hd;exact⟨⟨v,hv⟩,by simp[hv]⟩
  ·intro i j d hd;obtain⟨v,hv,hr⟩:=key i j d hd;simp only[hv,OK.getD_some];exact hr
theorem xJ (s:ByteArray):Value.string s = .string ⟨s.data.toList.toArray⟩:=by cases s;simp
theorem R0 {fuel:Nat}{cs:ON Value}{x:Nk H×ON MB}(h:Mr enc Tryz.prog W 0 (λ_=>true) held fuel 80 cs=some x):∃t:Tm,z8 (R1 (cW W).I (cW W).J W) cs t.d.cells/\t.name.length+1<=Rows.uptoBulk x.1:=by
 obtain⟨xs,n,rfl,rfl,hl,hx,hf⟩:=KR Tryz.underlying80 h;have hc:Tryz.prog.cellsOf 80=3:=by kernel_rfl
 have hc3:Tryz.prog.cellsOf 3=1:=by kernel_rfl
 have hc9:Tryz.prog.cellsOf 9=1:=by kernel_rfl
 rw[hc]at hl;match cs,hl with
 |[v0,v1,v2],_ =>
 match xs,hx with
 |[x0,x1,x2],_ =>
 have h0:Mr enc Tryz.prog W 0 (λ_=>true) held n 3 (NW (Tryz.prog.cellsOf 3) [v0,v1,v2])=some x0:=hf 0 _ rfl;have h1:Mr enc Tryz.prog W 0 (λ_=>true) held n 9 (NW (Tryz.prog.cellsOf 9) [v1,v2])=some x1:=hf 1 _ rfl;have h2:Mr enc Tryz.prog W 0 (λ_=>true) held n 3 (NW (Tryz.prog.cellsOf 3) [v2])=some x2:=hf 2 _ rfl;simp only[hc3,hc9,Lj,K5]at h0 h1 h2;obtain⟨a,e0,f0,_⟩:=Kf (k:= .i64) Tryz.underlying3 h0;obtain⟨b,e1,f1,_⟩:=Jr Tryz.underlying9 h1;obtain⟨c,e2,f2,_⟩:=Kf (k:= .i64) Tryz.underlying3 h2;simp only[Ka,and_true]at e0 e1 e2;subst e0 e1 e2 f0 f1 f2;refine⟨⟨a,b.data.toList,c⟩,?_,?_⟩
 ·rw[xJ];exact M8 (.int _ _) (M8 (.str _) (M8 (.int _ _) Mh))
 ·simp[Rows.uptoBulk,Rows.uptoBulkAll];omega
theorem Tr {fuel:Nat}{cs:ON Value}{x:Nk H×ON MB}(h:Mr enc Tryz.prog W 0 (λ_=>true) held fuel 87 cs=some x):∃t:Bd,z8 (R1 (cW W).I (cW W).J W) cs t.d.cells/\t.name.length+1<=Rows.uptoBulk x.1:=by
 obtain⟨xs,n,rfl,rfl,hl,hx,hf⟩:=KR Tryz.underlying87 h;have hc:Tryz.prog.cellsOf 87=2:=by kernel_rfl
 have hc3:Tryz.prog.cellsOf 3=1:=by kernel_rfl
 have hc9:Tryz.prog.cellsOf 9=1:=by kernel_rfl
 rw[hc]at hl;match cs,hl with
 |[v0,v1],_ =>
 match xs,hx with
 |[x0,x1],_ =>
 have h0:Mr enc Tryz.prog W 0 (λ_=>true) held n 9 (NW (Tryz.prog.cellsOf 9) [v0,v1])=some x0:=hf 0 _ rfl;have h1:Mr enc Tryz.prog W 0 (λ_=>true) held n 3 (NW (Tryz.prog.cellsOf 3) [v1])=some x1:=hf 1 _ rfl;simp only[hc3,hc9,Lj,K5]at h0 h1;obtain⟨b,e1,f1,_⟩:=Jr Tryz.underlying9 h0;obtain⟨c,e2,f2,_⟩:=Kf (k:= .i64) Tryz.underlying3 h1;simp only[Ka,and_true]at e1 e2;subst e1 e2 f1 f2;refine⟨⟨b.data.toList,c⟩,?_,?_⟩
 ·rw[xJ];exact M8 (.str _) (M8 (.int _ _) Mh)
 ·simp[Rows.uptoBulk,Rows.uptoBulkAll]
theorem S8 (ts:ON Tm):(ts.map λt=>t.name.length+1).sum=bw ts+ts.length:=by
 unfold bw;induction ts with
 |nil=>rfl
 |cons t r ih=>simp only[Mf,Jo,MO,ih];omega
theorem Xo (ts:ON Bd):(ts.map λt=>t.name.length+1).sum=fC ts+ts.length:=by
 unfold fC;induction ts with
 |nil=>rfl
 |cons t r ih=>simp only[Mf,Jo,MO,ih];omega
theorem R2 (l:ON Fm):(l.map Fm.wt).sum=Fm.wts l:=by
 induction l with
 |nil=>rfl
 |cons t r ih=>simp only[Mf,Jo,Fm.wts,ih]
theorem trodFm:∀(fuel:Nat) (cs:ON Value) (x:Nk H×ON MB),Mr enc Tryz.prog W 0 (λ_=>true) held fuel 85 cs=some x->∃f:Fm,z8 (R1 (cW W).I (cW W).J W) cs f.d.cells/\f.wt<=Rows.uptoBulk x.1:=by
 intro fuel;induction fuel using Nat.strongRecOn with
 |_ fuel ih =>
 intro cs x h;obtain⟨xs,n,rfl,rfl,hl,hx,hf⟩:=KR Tryz.underlying85 h;have hc:Tryz.prog.cellsOf 85=6:=by kernel_rfl
 have hc3:Tryz.prog.cellsOf 3=1:=by kernel_rfl
 have hc9:Tryz.prog.cellsOf 9=1:=by kernel_rfl
 have hc22:Tryz.prog.cellsOf 81=1:=by kernel_rfl
 have hc23:Tryz.prog.cellsOf 82=1:=by kernel_rfl
 have hc24:Tryz.prog.cellsOf 83=1:=by kernel_rfl
 have hc43:Tryz.prog.cellsOf 80=3:=by kernel_rfl
 have hc40:Tryz.prog.cellsOf 87=2:=by kernel_rfl
 rw[hc]at hl;match cs,hl with
 |[v0,v1,v2,v3,v4,v5],_ =>
 match xs,hx with
 |[x0,x1,x2,x3,x4,x5],_ =>
 have h0:Mr enc Tryz.prog W 0 (λ_=>true) held n 3 (NW (Tryz.prog.cellsOf 3) [v0,v1,v2,v3,v4,v5])=some x0:=hf 0 _ rfl;have h1:Mr enc Tryz.prog W 0 (λ_=>true) held n 9 (NW (Tryz.prog.cellsOf 9) [v1,v2,v3,v4,v5])=some x1:=hf 1 _ rfl;have h2:Mr enc Tryz.prog W 0 (λ_=>true) held n 3 (NW (Tryz.prog.cellsOf 3) [v2,v3,v4,v5])=some x2:=hf 2 _ rfl;have h3:Mr enc Tryz.prog W 0 (λ_=>true) held n 81 (NW (Tryz.prog.cellsOf 81) [v3,v4,v5])=some x3:=hf 3 _ rfl;have h4:Mr enc Tryz.prog W 0 (λ_=>true) held n 82 (NW (Tryz.prog.cellsOf 82) [v4,v5])=some x4:=hf 4 _ rfl;have h5:Mr enc Tryz.prog W 0 (λ_=>true) held n 83 (NW (Tryz.prog.cellsOf 83) [v5])=some x5:=hf 5 _ rfl;simp only[hc3,hc9,hc22,hc23,hc24,Lj,K5]at h0 h1 h2 h3 h4 h5;obtain⟨a,e0,f0,_⟩:=Kf (k:= .i64) Tryz.underlying3 h0;obtain⟨b,e1,f1,_⟩:=Jr Tryz.underlying9 h1;obtain⟨c,e2,f2,_⟩:=Kf (k:= .i64) Tryz.underlying3 h2;obtain⟨ts,w3,e3,r3,b3⟩:=yg Nc (λt=>t.name.length+1) (by decide) (λ_=>rfl) Tryz.underlying81 hc43 (λ_ _ _ _ h=>R0 h) h3;obtain⟨bs,w4,e4,r4,b4⟩:=yg N3 (λt=>t.name.length+1) (by decide) (λ_=>rfl) Tryz.underlying82 hc40 (λ_ _ _ _ h=>Tr h) h4;obtain⟨l,w5,e5,r5,b5⟩:=yg NX Fm.wt (by decide:0<6) (λf=>by rw[f.d_eq];rfl) Tryz.underlying83 hc (λm cs' y hm h=>ih m (by omega) cs' y h) h5;simp only[Ka,and_true]at e0 e1 e2 e3 e4 e5;subst e0 e1 e2 e3 e4 e5 f0 f1 f2;refine⟨.mk a b.data.toList c ts bs l,?_,?_⟩
 ·rw[xJ,Fm.d_mk];exact M8 (.int _ _) (M8 (.str _) (M8 (.int _ _) (M8 r3 (M8 r4 (M8 r5 Mh)))))
 ·rw[S8]at b3;rw[Xo]at b4;rw[R2]at b5;rw[Fm.wt_eq];simp only[NG,NH,NJ,Nt,Mf,LO,Rows.uptoBulk,Rows.uptoBulkAll];omega
theorem R3 {fuel:Nat}{cs:ON Value}{x:Nk H×ON MB}(h:Mr enc Tryz.prog W 0 (λ_=>true) held fuel 89 cs=some x):∃r:Ru,z8 (R1 (cW W).I (cW W).J W) cs r.d.cells/\r.wt+1<=Rows.uptoBulk x.1:=by
 obtain⟨xs,n,rfl,rfl,hl,hx,hf⟩:=KR Tryz.underlying89 h;have hc:Tryz.prog.cellsOf 89=10:=by kernel_rfl
 have hc3:Tryz.prog.cellsOf 3=1:=by kernel_rfl
 have hc4:Tryz.prog.cellsOf 4=1:=by kernel_rfl
 have hc9:Tryz.prog.cellsOf 9=1:=by kernel_rfl
 have hc22:Tryz.prog.cellsOf 82=1:=by kernel_rfl
 have hc33:Tryz.prog.cellsOf 85=6:=by kernel_rfl
 have hc40:Tryz.prog.cellsOf 87=2:=by kernel_rfl
 rw[hc]at hl;match cs,hl with
 |[v0,v1,v2,v3,v4,v5,v6,v7,v8,v9],_ =>
 match xs,hx with
 |[x0,x1,x2,x3,x4],_ =>
 have h0:Mr enc Tryz.prog W 0 (λ_=>true) held n 9 (NW (Tryz.prog.cellsOf 9) [v0,v1,v2,v3,v4,v5,v6,v7,v8,v9])=some x0:=hf 0 _ rfl;have h1:Mr enc Tryz.prog W 0 (λ_=>true) held n 4 (NW (Tryz.prog.cellsOf 4) [v1,v2,v3,v4,v5,v6,v7,v8,v9])=some x1:=hf 1 _ rfl;have h2:Mr enc Tryz.prog W 0 (λ_=>true) held n 3 (NW (Tryz.prog.cellsOf 3) [v2,v3,v4,v5,v6,v7,v8,v9])=some x2:=hf 2 _ rfl;have h3:Mr enc Tryz.prog W 0 (λ_=>true) held n 82 (NW (Tryz.prog.cellsOf 82) [v3,v4,v5,v6,v7,v8,v9])=some x3:=hf 3 _ rfl;have h4:Mr enc Tryz.prog W 0 (λ_=>true) held n 85 (NW (Tryz.prog.cellsOf 85) [v4,v5,v6,v7,v8,v9])=some x4:=hf 4 _ rfl;simp only[hc3,hc4,hc9,hc22,hc33,Lj,K5]at h0 h1 h2 h3 h4;obtain⟨b,e0,f0,_⟩:=Jr Tryz.underlying9 h0;obtain⟨g,e1,_⟩:=Nk.trod_bool Tryz.underlying4 h1;obtain⟨c,e2,f2,_⟩:=Kf (k:= .i64) Tryz.underlying3 h2;obtain⟨bs,w3,e3,r3,b3⟩:=yg N3 (λt=>t.name.length+1) (by decide) (λ_=>rfl) Tryz.underlying82 hc40 (λ_ _ _ _ h=>Tr h) h3;obtain⟨f,r4,b4⟩:=trodFm _ _ _ h4;simp only[Ka,and_true]at e0 e1 e2 e3;subst e0 e1 e2 e3 f0 f2;refine⟨⟨b.data.toList,g,c,bs,f⟩,?_,?_⟩
 ·rw[xJ];rw[f.d_eq]at r4;exact M8 (.str _) (M8 (.bool _) (M8 (.int _ _) (M8 r3 r4)))
 ·rw[Xo]at b3;unfold Ru.wt ml;simp only[Mf,LO,Rows.uptoBulk,Rows.uptoBulkAll,LI,Is]at *;omega
theorem ae {fuel:Nat}{cs:ON Value}{x:Nk H×ON MB}(h:Mr enc Tryz.prog W 0 (λ_=>true) held fuel 3 cs=some x):∃t:Int,z8 (R1 (cW W).I (cW W).J W) cs (intD t).cells/\1<=Rows.uptoBulk x.1:=by obtain⟨a,rfl,rfl,_⟩:=Kf (k:= .i64) Tryz.underlying3 h;exact⟨a,M8 (.int _ _) Mh,by simp[Rows.uptoBulk]⟩
theorem ac {α:Type}(l:ON α):(l.map λ_=>1).sum=l.length:=by
 induction l with
 |nil=>rfl
 |cons a r ih=>simp only[Mf,Jo,MO,ih];omega
theorem R4 {fuel:Nat}{cs:ON Value}{x:Nk H×ON MB}(h:Mr enc Tryz.prog W 0 (λ_=>true) held fuel 74 cs=some x):∃t:Sl,z8 (R1 (cW W).I (cW W).J W) cs (Nx t).cells/\t.name.length+1<=Rows.uptoBulk x.1:=by
 obtain⟨xs,n,rfl,rfl,hl,hx,hf⟩:=KR Tryz.underlying74 h;have hc:Tryz.prog.cellsOf 74=3:=by kernel_rfl
 have c3:Tryz.prog.cellsOf 3=1:=by kernel_rfl
 have c9:Tryz.prog.cellsOf 9=1:=by kernel_rfl
 rw[hc]at hl;match cs,hl with
 |[v0,v1,v2],_ =>
 match xs,hx with
 |[x0,x1,x2],_ =>
 have h0:Mr enc Tryz.prog W 0 (λ_=>true) held n 9 (NW (Tryz.prog.cellsOf 9) [v0,v1,v2])=some x0:=hf 0 _ rfl;have h1:Mr enc Tryz.prog W 0 (λ_=>true) held n 3 (NW (Tryz.prog.cellsOf 3) [v1,v2])=some x1:=hf 1 _ rfl;have h2:Mr enc Tryz.prog W 0 (λ_=>true) held n 3 (NW (Tryz.prog.cellsOf 3) [v2])=some x2:=hf 2 _ rfl;simp only[c3,c9,Lj,K5]at h0 h1 h2;obtain⟨a0,e0,f0,_⟩:=Jr Tryz.underlying9 h0;obtain⟨a1,e1,f1,_⟩:=Kf (k:= .i64) Tryz.underlying3 h1;obtain⟨a2,e2,f2,_⟩:=Kf (k:= .i64) Tryz.underlying3 h2;simp only[Ka,and_true]at e0 e1 e2;subst e0 e1 e2 f0 f1 f2;refine⟨⟨a0.data.toList,a1,a2⟩,?_,?_⟩
 ·exact(M8 (by rw[xJ];exact .str _) (M8 (.int _ _) (M8 (.int _ _) Mh)))
 ·simp only[Mf,LO,Rows.uptoBulk,Rows.uptoBulkAll,LI,Is,ac]at *;omega
theorem R5 {fuel:Nat}{cs:ON Value}{x:Nk H×ON MB}(h:Mr enc Tryz.prog W 0 (λ_=>true) held fuel 76 cs=some x):∃t:Rm,z8 (R1 (cW W).I (cW W).J W) cs (N6 t).cells/\t.name.length+t.shut.length+1<=Rows.uptoBulk x.1:=by
 obtain⟨xs,n,rfl,rfl,hl,hx,hf⟩:=KR Tryz.underlying76 h;have hc:Tryz.prog.cellsOf 76=4:=by kernel_rfl
 have c3:Tryz.prog.cellsOf 3=1:=by kernel_rfl
 have c9:Tryz.prog.cellsOf 9=1:=by kernel_rfl
 have c30:Tryz.prog.cellsOf 30=1:=by kernel_rfl
 have e3:Tryz.prog.cellsOf 3=1:=by kernel_rfl
 rw[hc]at hl;match cs,hl with
 |[v0,v1,v2,v3],_ =>
 match xs,hx with
 |[x0,x1,x2,x3],_ =>
 have h0:Mr enc Tryz.prog W 0 (λ_=>true) held n 9 (NW (Tryz.prog.cellsOf 9) [v0,v1,v2,v3])=some x0:=hf 0 _ rfl;have h1:Mr enc Tryz.prog W 0 (λ_=>true) held n 3 (NW (Tryz.prog.cellsOf 3) [v1,v2,v3])=some x1:=hf 1 _ rfl;have h2:Mr enc Tryz.prog W 0 (λ_=>true) held n 3 (NW (Tryz.prog.cellsOf 3) [v2,v3])=some x2:=hf 2 _ rfl;have h3:Mr enc Tryz.prog W 0 (λ_=>true) held n 30 (NW (Tryz.prog.cellsOf 30) [v3])=some x3:=hf 3 _ rfl;simp only[c3,c9,c30,Lj,K5]at h0 h1 h2 h3;obtain⟨a0,e0,f0,_⟩:=Jr Tryz.underlying9 h0;obtain⟨a1,e1,f1,_⟩:=Kf (k:= .i64) Tryz.underlying3 h1;obtain⟨a2,e2,f2,_⟩:=Kf (k:= .i64) Tryz.underlying3 h2;obtain⟨l3,w3,e3,r3,b3⟩:=yg intD (λ_=>1) (by decide) (λ_=>rfl) Tryz.underlying30 e3 (λ_ _ _ _ h=>ae h) h3;simp only[Ka,and_true]at e0 e1 e2 e3;subst e0 e1 e2 e3 f0 f1 f2;refine⟨⟨a0.data.toList,a1,a2,l3⟩,?_,?_⟩
 ·exact(M8 (by rw[xJ];exact .str _) (M8 (.int _ _) (M8 (.int _ _) (M8 r3 Mh))))
 ·simp only[Mf,LO,Rows.uptoBulk,Rows.uptoBulkAll,LI,Is,ac]at *;omega
theorem R6 {fuel:Nat}{cs:ON Value}{x:Nk H×ON MB}(h:Mr enc Tryz.prog W 0 (λ_=>true) held fuel 133 cs=some x):∃t:Pe,z8 (R1 (cW W).I (cW W).J W) cs (N9 t).cells/\t.name.length+t.away.length+1<=Rows.uptoBulk x.1:=by
 obtain⟨xs,n,rfl,rfl,hl,hx,hf⟩:=KR Tryz.underlying133 h;have hc:Tryz.prog.cellsOf 133=2:=by kernel_rfl
 have c9:Tryz.prog.cellsOf 9=1:=by kernel_rfl
 have c30:Tryz.prog.cellsOf 30=1:=by kernel_rfl
 have e3:Tryz.prog.cellsOf 3=1:=by kernel_rfl
 rw[hc]at hl;match cs,hl with
 |[v0,v1],_ =>
 match xs,hx with
 |[x0,x1],_ =>
 have h0:Mr enc Tryz.prog W 0 (λ_=>true) held n 9 (NW (Tryz.prog.cellsOf 9) [v0,v1])=some x0:=hf 0 _ rfl;have h1:Mr enc Tryz.prog W 0 (λ_=>true) held n 30 (NW (Tryz.prog.cellsOf 30) [v1])=some x1:=hf 1 _ rfl;simp only[c9,c30,Lj,K5]at h0 h1;obtain⟨a0,e0,f0,_⟩:=Jr Tryz.underlying9 h0;obtain⟨l1,w1,e1,r1,b1⟩:=yg intD (λ_=>1) (by decide) (λ_=>rfl) Tryz.underlying30 e3 (λ_ _ _ _ h=>ae h) h1;simp only[Ka,and_true]at e0 e1;subst e0 e1 f0;refine⟨⟨a0.data.toList,l1⟩,?_,?_⟩
 ·exact(M8 (by rw[xJ];exact .str _) (M8 r1 Mh))
 ·simp only[Mf,LO,Rows.uptoBulk,Rows.uptoBulkAll,LI,Is,ac]at *;omega
theorem R7 {fuel:Nat}{cs:ON Value}{x:Nk H×ON MB}(h:Mr enc Tryz.prog W 0 (λ_=>true) held fuel 136 cs=some x):∃t:Gr,z8 (R1 (cW W).I (cW W).J W) cs (Ny t).cells/\t.name.length+1<=Rows.uptoBulk x.1:=by
 obtain⟨xs,n,rfl,rfl,hl,hx,hf⟩:=KR Tryz.underlying136 h;have hc:Tryz.prog.cellsOf 136=2:=by kernel_rfl
 have c3:Tryz.prog.cellsOf 3=1:=by kernel_rfl
 have c9:Tryz.prog.cellsOf 9=1:=by kernel_rfl
 rw[hc]at hl;match cs,hl with
 |[v0,v1],_ =>
 match xs,hx with
 |[x0,x1],_ =>
 have h0:Mr enc Tryz.prog W 0 (λ_=>true) held n 9 (NW (Tryz.prog.cellsOf 9) [v0,v1])=some x0:=hf 0 _ rfl;have h1:Mr enc Tryz.prog W 0 (λ_=>true) held n 3 (NW (Tryz.prog.cellsOf 3) [v1])=some x1:=hf 1 _ rfl;simp only[c3,c9,Lj,K5]at h0 h1;obtain⟨a0,e0,f0,_⟩:=Jr Tryz.underlying9 h0;obtain⟨a1,e1,f1,_⟩:=Kf (k:= .i64) Tryz.underlying3 h1;simp only[Ka,and_true]at e0 e1;subst e0 e1 f0 f1;refine⟨⟨a0.data.toList,a1⟩,?_,?_⟩
 ·exact(M8 (by rw[xJ];exact .str _) (M8 (.int _ _) Mh))
 ·simp only[Mf,LO,Rows.uptoBulk,Rows.uptoBulkAll,LI,Is,ac]at *;omega
theorem R8 {fuel:Nat}{cs:ON Value}{x:Nk H×ON MB}(h:Mr enc Tryz.prog W 0 (λ_=>true) held fuel 78 cs=some x):∃t:Le,z8 (R1 (cW W).I (cW W).J W) cs (N8 t).cells/\t.name.length+t.who.length+t.groups.length+1<=Rows.uptoBulk x.1:=by
 obtain⟨xs,n,rfl,rfl,hl,hx,hf⟩:=KR Tryz.underlying78 h;have hc:Tryz.prog.cellsOf 78=3:=by kernel_rfl
 have c9:Tryz.prog.cellsOf 9=1:=by kernel_rfl
 have c30:Tryz.prog.cellsOf 30=1:=by kernel_rfl
 have e3:Tryz.prog.cellsOf 3=1:=by kernel_rfl
 rw[hc]at hl;match cs,hl with
 |[v0,v1,v2],_ =>
 match xs,hx with
 |[x0,x1,x2],_ =>
 have h0:Mr enc Tryz.prog W 0 (λ_=>true) held n 9 (NW (Tryz.prog.cellsOf 9) [v0,v1,v2])=some x0:=hf 0 _ rfl;have h1:Mr enc Tryz.prog W 0 (λ_=>true) held n 30 (NW (Tryz.prog.cellsOf 30) [v1,v2])=some x1:=hf 1 _ rfl;have h2:Mr enc Tryz.prog W 0 (λ_=>true) held n 30 (NW (Tryz.prog.cellsOf 30) [v2])=some x2:=hf 2 _ rfl;simp only[c9,c30,Lj,K5]at h0 h1 h2;obtain⟨a0,e0,f0,_⟩:=Jr Tryz.underlying9 h0;obtain⟨l1,w1,e1,r1,b1⟩:=yg intD (λ_=>1) (by decide) (λ_=>rfl) Tryz.underlying30 e3 (λ_ _ _ _ h=>ae h) h1;obtain⟨l2,w2,e2,r2,b2⟩:=yg intD (λ_=>1) (by decide) (λ_=>rfl) Tryz.underlying30 e3 (λ_ _ _ _ h=>ae h) h2;simp only[Ka,and_true]at e0 e1 e2;subst e0 e1 e2 f0;refine⟨⟨a0.data.toList,l1,l2⟩,?_,?_⟩
 ·exact(M8 (by rw[xJ];exact .str _) (M8 r1 (M8 r2 Mh)))
 ·simp only[Mf,LO,Rows.uptoBulk,Rows.uptoBulkAll,LI,Is,ac]at *;omega
theorem R9 {fuel:Nat}{cs:ON Value}{x:Nk H×ON MB}(h:Mr enc Tryz.prog W 0 (λ_=>true) held fuel 48 cs=some x):∃t:Pl,z8 (R1 (cW W).I (cW W).J W) cs (Nr t).cells/\1<=Rows.uptoBulk x.1:=by
 obtain⟨xs,n,rfl,rfl,hl,hx,hf⟩:=KR Tryz.underlying48 h;have hc:Tryz.prog.cellsOf 48=2:=by kernel_rfl
 have c3:Tryz.prog.cellsOf 3=1:=by kernel_rfl
 rw[hc]at hl;match cs,hl with
 |[v0,v1],_ =>
 match xs,hx with
 |[x0,x1],_ =>
 have h0:Mr enc Tryz.prog W 0 (λ_=>true) held n 3 (NW (Tryz.prog.cellsOf 3) [v0,v1])=some x0:=hf 0 _ rfl;have h1:Mr enc Tryz.prog W 0 (λ_=>true) held n 3 (NW (Tryz.prog.cellsOf 3) [v1])=some x1:=hf 1 _ rfl;simp only[c3,Lj,K5]at h0 h1;obtain⟨a0,e0,f0,_⟩:=Kf (k:= .i64) Tryz.underlying3 h0;obtain⟨a1,e1,f1,_⟩:=Kf (k:= .i64) Tryz.underlying3 h1;simp only[Ka,and_true]at e0 e1;subst e0 e1 f0 f1;refine⟨⟨a0,a1⟩,?_,?_⟩
 ·exact(M8 (.int _ _) (M8 (.int _ _) Mh))
 ·simp only[Mf,LO,Rows.uptoBulk,Rows.uptoBulkAll,LI,Is,ac]at *;omega
def Sc.wb (s:Sc):Nat:=(s.slots.map λt=>t.name.length+1).sum+(s.rooms.map λt=>t.name.length+t.shut.length+1).sum+(s.people.map λt=>t.name.length+t.away.length+1).sum+(s.groups.map λt=>t.name.length+1).sum+(s.lessons.map λt=>t.name.length+t.who.length+t.groups.length+1).sum
theorem Rz {fuel:Nat}{cs:ON Value}{x:Nk H×ON MB}(h:Mr enc Tryz.prog W 0 (λ_=>true) held fuel 28 cs=some x):∃t:Sc,z8 (R1 (cW W).I (cW W).J W) cs (Sc.d t).cells/\t.wb+1<=Rows.uptoBulk x.1:=by
 obtain⟨xs,n,rfl,rfl,hl,hx,hf⟩:=KR Tryz.underlying28 h;have hc:Tryz.prog.cellsOf 28=5:=by kernel_rfl
 have c22:Tryz.prog.cellsOf 22=1:=by kernel_rfl
 have c23:Tryz.prog.cellsOf 23=1:=by kernel_rfl
 have c24:Tryz.prog.cellsOf 24=1:=by kernel_rfl
 have c25:Tryz.prog.cellsOf 25=1:=by kernel_rfl
 have c26:Tryz.prog.cellsOf 26=1:=by kernel_rfl
 have e74:Tryz.prog.cellsOf 74=3:=by kernel_rfl
 have e76:Tryz.prog.cellsOf 76=4:=by kernel_rfl
 have e133:Tryz.prog.cellsOf 133=2:=by kernel_rfl
 have e136:Tryz.prog.cellsOf 136=2:=by kernel_rfl
 have e78:Tryz.prog.cellsOf 78=3:=by kernel_rfl
 rw[hc]at hl;match cs,hl with
 |[v0,v1,v2,v3,v4],_ =>
 match xs,hx with
 |[x0,x1,x2,x3,x4],_ =>
 have h0:Mr enc Tryz.prog W 0 (λ_=>true) held n 22 (NW (Tryz.prog.cellsOf 22) [v0,v1,v2,v3,v4])=some x0:=hf 0 _ rfl;have h1:Mr enc Tryz.prog W 0 (λ_=>true) held n 23 (NW (Tryz.prog.cellsOf 23) [v1,v2,v3,v4])=some x1:=hf 1 _ rfl;have h2:Mr enc Tryz.prog W 0 (λ_=>true) held n 24 (NW (Tryz.prog.cellsOf 24) [v2,v3,v4])=some x2:=hf 2 _ rfl;have h3:Mr enc Tryz.prog W 0 (λ_=>true) held n 25 (NW (Tryz.prog.cellsOf 25) [v3,v4])=some x3:=hf 3 _ rfl;have h4:Mr enc Tryz.prog W 0 (λ_=>true) held n 26 (NW (Tryz.prog.cellsOf 26) [v4])=some x4:=hf 4 _ rfl;simp only[c22,c23,c24,c25,c26,Lj,K5]at h0 h1 h2 h3 h4;obtain⟨l0,w0,e0,r0,b0⟩:=yg Nx (λt=>t.name.length+1) (by decide) (λ_=>rfl) Tryz.underlying22 e74 (λ_ _ _ _ h=>R4 h) h0;obtain⟨l1,w1,e1,r1,b1⟩:=yg N6 (λt=>t.name.length+t.shut.length+1) (by decide) (λ_=>rfl) Tryz.underlying23 e76 (λ_ _ _ _ h=>R5 h) h1;obtain⟨l2,w2,e2,r2,b2⟩:=yg N9 (λt=>t.name.length+t.away.length+1) (by decide) (λ_=>rfl) Tryz.underlying24 e133 (λ_ _ _ _ h=>R6 h) h2;obtain⟨l3,w3,e3,r3,b3⟩:=yg Ny (λt=>t.name.length+1) (by decide) (λ_=>rfl) Tryz.underlying25 e136 (λ_ _ _ _ h=>R7 h) h3;obtain⟨l4,w4,e4,r4,b4⟩:=yg N8 (λt=>t.name.length+t.who.length+t.groups.length+1) (by decide) (λ_=>rfl) Tryz.underlying26 e78 (λ_ _ _ _ h=>R8 h) h4;simp only[Ka,and_true]at e0 e1 e2 e3 e4;subst e0 e1 e2 e3 e4;refine⟨⟨l0,l1,l2,l3,l4⟩,?_,?_⟩
 ·exact(M8 r0 (M8 r1 (M8 r2 (M8 r3 (M8 r4 Mh)))))
 ·unfold Sc.wb;simp only[Mf,LO,Rows.uptoBulk,Rows.uptoBulkAll]at *;omega
def Pn.wb (p:Pn):Nat:=p.sc.wb+(p.rules.map λr=>r.wt+1).sum+p.frozen.length
theorem Ry {fuel:Nat}{cs:ON Value}{x:Nk H×ON MB}(h:Mr enc Tryz.prog W 0 (λ_=>true) held fuel 32 cs=some x):∃t:Pn,z8 (R1 (cW W).I (cW W).J W) cs (Pn.d t).cells/\t.wb+1<=Rows.uptoBulk x.1:=by
 obtain⟨xs,n,rfl,rfl,hl,hx,hf⟩:=KR Tryz.underlying32 h;have hc:Tryz.prog.cellsOf 32=7:=by kernel_rfl
 have c28:Tryz.prog.cellsOf 28=5:=by kernel_rfl
 have c29:Tryz.prog.cellsOf 29=1:=by kernel_rfl
 have c30:Tryz.prog.cellsOf 30=1:=by kernel_rfl
 have e89:Tryz.prog.cellsOf 89=10:=by kernel_rfl
 have e3:Tryz.prog.cellsOf 3=1:=by kernel_rfl
 rw[hc]at hl;match cs,hl with
 |[v0,v1,v2,v3,v4,v5,v6],_ =>
 match xs,hx with
 |[x0,x1,x2],_ =>
 have h0:Mr enc Tryz.prog W 0 (λ_=>true) held n 28 (NW (Tryz.prog.cellsOf 28) [v0,v1,v2,v3,v4,v5,v6])=some x0:=hf 0 _ rfl;have h1:Mr enc Tryz.prog W 0 (λ_=>true) held n 29 (NW (Tryz.prog.cellsOf 29) [v5,v6])=some x1:=hf 1 _ rfl;have h2:Mr enc Tryz.prog W 0 (λ_=>true) held n 30 (NW (Tryz.prog.cellsOf 30) [v6])=some x2:=hf 2 _ rfl;simp only[c28,c29,c30,Lj,K5]at h0 h1 h2;obtain⟨a0,r0,b0⟩:=Rz h0;obtain⟨l1,w1,e1,r1,b1⟩:=yg Na (λr=>r.wt+1) (by decide) (λ_=>rfl) Tryz.underlying29 e89 (λ_ _ _ _ h=>R3 h) h1;obtain⟨l2,w2,e2,r2,b2⟩:=yg intD (λ_=>1) (by decide) (λ_=>rfl) Tryz.underlying30 e3 (λ_ _ _ _ h=>ae h) h2;simp only[Ka,and_true]at e1 e2;subst e1 e2;refine⟨⟨a0,l1,l2⟩,?_,?_⟩
 ·exact(z8.append r0 (M8 r1 (M8 r2 Mh)))
 ·unfold Pn.wb;rw[ac]at *;simp only[Mf,LO,Rows.uptoBulk,Rows.uptoBulkAll]at *;omega
theorem Rx {fuel:Nat}{cs:ON Value}{x:Nk H×ON MB}(h:Mr enc Tryz.prog W 0 (λ_=>true) held fuel 35 cs=some x):∃t:ON Pl,z8 (R1 (cW W).I (cW W).J W) cs (wh t).cells/\t.length+1<=Rows.uptoBulk x.1:=by
 obtain⟨xs,n,rfl,rfl,hl,hx,hf⟩:=KR Tryz.underlying35 h;have hc:Tryz.prog.cellsOf 35=1:=by kernel_rfl
 have c33:Tryz.prog.cellsOf 33=1:=by kernel_rfl
 have e48:Tryz.prog.cellsOf 48=2:=by kernel_rfl
 rw[hc]at hl;match cs,hl with
 |[v0],_ =>
 match xs,hx with
 |[x0],_ =>
 have h0:Mr enc Tryz.prog W 0 (λ_=>true) held n 33 (NW (Tryz.prog.cellsOf 33) [v0])=some x0:=hf 0 _ rfl;simp only[c33,Lj,K5]at h0;obtain⟨l0,w0,e0,r0,b0⟩:=yg Nr (λ_=>1) (by decide) (λ_=>rfl) Tryz.underlying33 e48 (λ_ _ _ _ h=>R9 h) h0;simp only[Ka,and_true]at e0;subst e0;refine⟨l0,?_,?_⟩
 ·exact(M8 r0 Mh)
 ·rw[ac]at *;simp only[Mf,LO,Rows.uptoBulk,Rows.uptoBulkAll]at *;omega
theorem sO {α:Type}{w:α->Nat}{l:ON α}{x:α}(h:x∈l):w x<=(l.map w).sum:=by
 induction l with
 |nil=>cases h
 |cons a r ih =>
  simp only[Mf,Jo];rcases MU.1 h with rfl|h
  ·omega
  ·have:=ih h;omega
theorem iL {α:Type}{w:α->Nat}(hw:∀x,1<=w x) (l:ON α):l.length<=(l.map w).sum:=by
 induction l with
 |nil=>simp
 |cons a r ih =>
  simp only[Mf,Jo,MO];have:=hw a;omega
theorem S9 {s:Sc}(h:s.wb<1099511627776):s.Fits:=by
 unfold Sc.wb at h;have l1:=iL (w:=λt:Sl=>t.name.length+1) (λ_=>by omega) s.slots;have l2:=iL (w:=λt:Rm=>t.name.length+t.shut.length+1) (λ_=>by omega) s.rooms;have l3:=iL (w:=λt:Pe=>t.name.length+t.away.length+1) (λ_=>by omega) s.people;have l4:=iL (w:=λt:Gr=>t.name.length+1) (λ_=>by omega) s.groups;have l5:=iL (w:=λt:Le=>t.name.length+t.who.length+t.groups.length+1) (λ_=>by omega) s.lessons;refine⟨by omega,by omega,by omega,by omega,by omega,λx hx=>?_,λx hx=>?_,λx hx=>?_,λx hx=>?_,λx hx=>?_,λx hx=>?_,λx hx=>?_,λx hx=>?_,λx hx=>?_⟩
 ·have:=sO (w:=λt:Rm=>t.name.length+t.shut.length+1) hx;omega
 ·have:=sO (w:=λt:Pe=>t.name.length+t.away.length+1) hx;omega
 ·have:=sO (w:=λt:Le=>t.name.length+t.who.length+t.groups.length+1) hx;omega
 ·have:=sO (w:=λt:Le=>t.name.length+t.who.length+t.groups.length+1) hx;omega
 ·have:=sO (w:=λt:Sl=>t.name.length+1) hx;omega
 ·have:=sO (w:=λt:Rm=>t.name.length+t.shut.length+1) hx;omega
 ·have:=sO (w:=λt:Pe=>t.name.length+t.away.length+1) hx;omega
 ·have:=sO (w:=λt:Gr=>t.name.length+1) hx;omega
 ·have:=sO (w:=λt:Le=>t.name.length+t.who.length+t.groups.length+1) hx;omega
theorem OS (l:ON Ru):(l.map λr=>r.wt+1).sum=rwts l+l.length:=by
 induction l with
 |nil=>rfl
 |cons t r ih=>simp only[Mf,Jo,rwts,ih,MO];omega
theorem Sz {p:Pn}(h:p.wb<1099511627776):p.Fits:=by unfold Pn.wb at h;rw[OS]at h;exact⟨S9 (by omega),by omega,by omega,by omega⟩
end
end
end Go.Fo
namespace Go.Fo
open Go Go.Sx Go.Proofs
open Go.WideElems
section
open Go.ChangeMaps (mem_insert_iff)
def litD:KK->D
 |.int k n=>.int k n
 |.string s=>.str s
 |.bool b=>.bool b
 |_=>.bool false
def fe {H:Type}:Nk H->KK
 |.lit l=>l
 |_=>.bool false
def conv {H:Type}(p:KK×Nk H):D×D:=(litD p.1,litD (fe p.2))
theorem mF {H:Type}{y:KK×Nk H}:∀{l:ON (KK×Nk H)},y∈l.foldr Nk.insert []↔y∈l
 |[]=>by simp
 |a::l=>by rw[ON.foldr_cons,mem_insert_iff,mF];simp
section
variable {H:Type}{enc:TypeId×Value->H}{P:Ng}{W:N4}{held:Bool}
theorem cx {t k e:TypeId}(ht:P.underlying t=some (.map k e)) (hkey:∀v l,keyOf P k v=some l->R1 (cW W).I (cW W).J W v (litD l)) (hel:∀n v y,elemAt enc P W 0 (λ_=>true) held n e v=some y->R1 (cW W).I (cW W).J W v (litD (fe y.1))) {fuel:Nat}{cs:ON Value}{L:ON (KK×Nk H)}{p:ON MB}(h:Mr enc P W 0 (λ_=>true) held fuel t cs=some (.map L,p)):∃(es:ON (D×D)) (v:Value),cs=[v]/\R1 (cW W).I (cW W).J W v (.gmap es)/\∀kv,kv∈es↔kv∈L.map conv:=by
 rcases open_map ht h with⟨_,hx⟩|⟨b,ents,clk,n,_,rfl,hb,_,F,hx⟩
 ·cases hx
 simp only[J5,Cu]at hx;refine⟨ents.toList.map λx=>conv (rg P k (elemAt enc P W 0 (λ_=>true) held n e) x),_,rfl,?_,λkv=>?_⟩
 ·have key:∀(i:Nat) kv,(ents.toList.map λx=>conv (rg P k (elemAt enc P W 0 (λ_=>true) held n e) x))[i]? = some kv->R1 (cW W).I (cW W).J W (ents.getD i default).key kv.1/\R1 (cW W).I (cW W).J W (ents.getD i default).val kv.2:=by
   intro i kv hi;rw[M6,KB]at hi;obtain⟨x,hx1,rfl⟩:=hi;have hg:ents.getD i default=x:=by rw[KA]at hx1;simp[Lk,hx1]
   obtain⟨y,hy⟩:=F.reads x (MX hx1);rw[hg,rg_of hy];obtain⟨z,hz,hz2⟩:=rd_val hy;refine⟨hkey _ _ (rd_key hy),?_⟩;show R1 _ _ W x.val (litD (fe y.2));rw[hz2];exact hel n _ _ hz
  exact .gmap b ents clk _ ⟨ents,clk,hb⟩ hb (by simp) (λi kv h=>(key i kv h).1) (λi kv h=>(key i kv h).2)
 ·rw[hx.1];simp only[Mj,mF];constructor
  ·rintro⟨x,hx,rfl⟩;exact⟨_,⟨x,hx,rfl⟩,rfl⟩
  ·rintro⟨_,⟨x,hx,rfl⟩,rfl⟩;exact⟨x,hx,rfl⟩
theorem cw {k:TypeId}{q:OA}(hk:P.underlying k=some (.int q)) (v:Value) (l:KK) (h:keyOf P k v=some l):R1 (cW W).I (cW W).J W v (litD l):=by
 rw[keyOf_int hk]at h;unfold mapKey at h;rw[hk]at h;split at h<;>simp_all
 obtain⟨⟨rfl,_⟩,rfl⟩:=h;exact .int _ _
theorem cu {k:TypeId}(hk:P.underlying k=some .string) (v:Value) (l:KK) (h:keyOf P k v=some l):R1 (cW W).I (cW W).J W v (litD l):=by
 rw[keyOf_string hk]at h;unfold mapKey at h;rw[hk]at h;split at h<;>simp_all
 obtain⟨_,rfl⟩:=h;rw[xJ];exact .str _
theorem Rw {e:TypeId}{q:OA}(he:P.underlying e=some (.int q)) (n:Nat) (v:Value) (y:Nk H×ON MB) (h:elemAt enc P W 0 (λ_=>true) held n e v=some y):R1 (cW W).I (cW W).J W v (litD (fe y.1)):=by obtain⟨a,rfl,rfl,_⟩:=elemAt_int he h;exact .int _ _
theorem Sy {e:TypeId}(he:P.underlying e=some .bool) (n:Nat) (v:Value) (y:Nk H×ON MB) (h:elemAt enc P W 0 (λ_=>true) held n e v=some y):R1 (cW W).I (cW W).J W v (litD (fe y.1)):=by obtain⟨a,rfl,rfl⟩:=elemAt_bool he h;exact .bool _
theorem Rv {e:TypeId}(he:P.underlying e=some .string) (n:Nat) (v:Value) (y:Nk H×ON MB) (h:elemAt enc P W 0 (λ_=>true) held n e v=some y):R1 (cW W).I (cW W).J W v (litD (fe y.1)):=by
 unfold elemAt at h;split at h
 ·rename_i hf;obtain⟨s,hc,hz,_⟩:=Jr he h;cases v<;>simp[Gi,he,Value.cells]at hf hc
  subst hc;rw[hz,xJ];exact .str _
 ·cases h
theorem qi {laid:ON (JQ×Nk Lf)}:∀{ps:ON MB},Nk.LaidVars P W laid ps->∀{n d},(n,d)∈laid->∃g t cs fuel p,P.globalNamed n=some g/\(P.globals[g]?).map (·.type)=some t/\W.var? P n=some cs/\Mr (λ_=>()) P W 0 (λ_=>true) false fuel t cs.toList=some (d,p):=by
 induction laid with
 |nil=>intro ps _ n d h;cases h
 |cons x r ih =>
  obtain⟨n0,d0⟩:=x;rintro ps ⟨g,t,cs,fuel,p,q,h1,h2,h3,h4,h5,_⟩ n d hm;rcases MU.1 hm with h|h
  ·cases h;exact⟨g,t,cs,fuel,p,h1,h2,h3,h4⟩
  ·exact ih h5 h
end
theorem uS {es L:ON (D×D)}(k:D) (h:∀kv,kv∈es↔kv∈L) (hb:∀kv∈L,∀kv'∈L,beqD k kv.1=true->beqD k kv'.1=true->kv=kv'):zX es k=zX L k:=by
 unfold zX;cases h1:es.find? λkv=>beqD k kv.1 with
 |none =>
  rw[FG]at h1;have:L.find? (λkv=>beqD k kv.1)=none:=by rw[FG];exact λx hx=>h1 x ((h x).2 hx)
  rw[this]
 |some kv =>
  have hm:=HE h1;have hp:=Ey h1;cases h2:L.find? λkv=>beqD k kv.1 with
  |none =>
   rw[FG]at h2;exact No hp (h2 kv ((h kv).1 hm))
  |some kv' =>
   have hp':=Ey h2;rw[hb kv ((h kv).1 hm) kv' (HE h2) hp hp']
theorem lV.inj_fst {α β:Type}:∀{L:ON (α×β)},(L.map N7).Nodup->∀{p q},p∈L->q∈L->p.1=q.1->p=q
 |[],_,_,_,h,_,_=>by cases h
 |a::L,hn,p,q,hp,hq,he=>by
  rw[Mf,ON.nodup_cons]at hn;rcases MU.1 hp with rfl|hp'<;>rcases MU.1 hq with rfl|hq'
  ·rfl
  ·exact No (he ▸ DP hq') hn.1
  ·exact No (he ▸ DP hp') hn.1
  ·exact lV.inj_fst hn.2 hp' hq' he
theorem lV (L:ON (Int×Int)) (hL:(L.map N7).Nodup) {es:ON (D×D)}(h:∀kv,kv∈es↔kv∈L.map λp=>(OH .i64 p.1,OH .i64 p.2)) (k:Int):zX es (.int .i64 k)=(L.lookup k).map (.int .i64):=by
 rw[uS _ h ?_]
 ·clear h hL;induction L with
  |nil=>rfl
  |cons p r ih =>
   obtain⟨a,b⟩:=p;unfold zX at ih ⊢;rw[Mf,KP,G7];simp only[beqD];cases hk:k==a with
   |true=>rfl
   |false=>exact ih
 ·intro kv h1 kv' h2 e1 e2;obtain⟨p,hp,rfl⟩:=Mj.1 h1;obtain⟨q,hq,rfl⟩:=Mj.1 h2;simp only[beqD,beq_iff_eq]at e1 e2;have:p=q:=lV.inj_fst hL hp hq (e1.symm.trans e2);rw[this]
theorem QW (L:ON (ON UInt8×ON UInt8)) (hL:(L.map N7).Nodup) {es:ON (D×D)}(h:∀kv,kv∈es↔kv∈L.map λp=>(NZ p.1,NZ p.2)) (k:ON UInt8):zX es (.str k)=(L.lookup k).map .str:=by
 rw[uS _ h ?_]
 ·clear h hL;induction L with
  |nil=>rfl
  |cons p r ih =>
   obtain⟨a,b⟩:=p;unfold zX at ih ⊢;rw[Mf,KP,G7];simp only[beqD];cases hk:k==a with
   |true=>rfl
   |false=>exact ih
 ·intro kv h1 kv' h2 e1 e2;obtain⟨p,hp,rfl⟩:=Mj.1 h1;obtain⟨q,hq,rfl⟩:=Mj.1 h2;simp only[beqD,beq_iff_eq]at e1 e2;have:p=q:=lV.inj_fst hL hp hq (e1.symm.trans e2);rw[this]
theorem QV (L:ON (ON UInt8)) {es:ON (D×D)}(h:∀kv,kv∈es↔kv∈L.map λp=>(NZ p,OD true)) (k:ON UInt8):zX es (.str k)=if L.contains k then some (.bool true)else none:=by
 rw[uS _ h ?_]
 ·clear h;induction L with
  |nil=>rfl
  |cons a r ih =>
   unfold zX at ih ⊢;rw[Mf,KP,ON.contains_cons];simp only[beqD];cases hk:k==a with
   |true=>rfl
   |false=>exact ih
 ·intro kv h1 kv' h2 e1 e2;obtain⟨p,hp,rfl⟩:=Mj.1 h1;obtain⟨q,hq,rfl⟩:=Mj.1 h2;simp only[beqD,beq_iff_eq]at e1 e2;rw[←e1,←e2]
open Go.Proofs.YtfegegkkdfkllaaGreatDoor (Rows.laid_chalkline_formula_arity Rows.laid_chalkline_formula_signs Rows.laid_chalkline_formula_reserved Rows.laid_chalkline_types_asks Rows.laid_chalkline_types_takes Rows.laid_chalkline_eval_signs Rows.laid_chalkline_eval_atoms Rows.laid_chalkline_audit_kinds)
theorem u262:Tryz.prog.underlying 262=some (.map 3 3):=by kernel_rfl
theorem u263:Tryz.prog.underlying 263=some (.map 9 9):=by kernel_rfl
theorem u122:Tryz.prog.underlying 122=some (.map 9 4):=by kernel_rfl
theorem u4:Tryz.prog.underlying 4=some .bool:=by kernel_rfl
theorem u128:Tryz.prog.underlying 128=some (.array 2 3):=by kernel_rfl
theorem u267:Tryz.prog.underlying 267=some (.array 8 128):=by kernel_rfl
theorem u251:Tryz.prog.underlying 251=some (.array 9 128):=by kernel_rfl
theorem u211:Tryz.prog.underlying 211=some (.map 9 98):=by kernel_rfl
theorem u215:Tryz.prog.underlying 215=some (.map 3 213):=by kernel_rfl
theorem u91:Tryz.prog.underlying 91=some (.map 3 49):=by kernel_rfl
theorem c128:Tryz.prog.cellsOf 128=2:=by kernel_rfl
theorem c3:Tryz.prog.cellsOf 3=1:=by kernel_rfl
theorem qB {cs:OC Value}{v:Value}(h:cs.toList=[v]):cs[0]? = some v:=by rw[←KA,h];rfl
def keysOf:Nk Lf->ON (ON UInt8)
 |.map L=>L.map λp=>match p.1 with|.string s=>s|_=>[]
 |_=>[]
def resK:ON (ON UInt8):=keysOf Rows.laid_chalkline_formula_reserved
theorem Tp (s:ON UInt8):s∈resK↔s∈words :=⟨(by decide +kernel:∀s∈resK,s∈words) s,(by decide +kernel:∀s∈words,s∈resK) s⟩
theorem pairs_get:∀{L:ON (Int×Int)}{j:Nat}{x:D},(wY L)[j]? = some x->∃p,L[j / 2]? = some p/\x = .int .i64 (if j % 2=0 then p.1 else p.2)
 |[],j,x,h=>by simp[wY]at h
 |p::r,0,x,h=>by simp[wY]at h;exact⟨p,rfl,h.symm⟩
 |p::r,1,x,h=>by simp[wY]at h;exact⟨p,rfl,h.symm⟩
 |p::r,j+2,x,h=>by
  have h':(wY r)[j]? = some x:=by simpa[wY]using h
  obtain⟨q,h1,h2⟩:=pairs_get h';have e1:(j+2) / 2=j / 2+1:=by omega
  have e2:(j+2) % 2=j % 2:=by omega
  exact⟨q,by rw[e1];simpa using h1,by rw[e2];exact h2⟩
theorem Sw {cs:ON Value}{i:Nat}{v:Value}(h:(cs.drop i).take 1=[v]):cs[i]? = some v:=by have:=Mz (λl=>l[0]?) h;simpa[Ld]using this
section
variable {H:Type}{enc:TypeId×Value->H}{W:N4}{held:Bool}
theorem fc {t:TypeId}{n fuel:Nat}{cs:ON Value}{L:ON (Int×Int)}{p:ON MB}(ht:Tryz.prog.underlying t=some (.array n 128)) (hn:L.length=n) (h:Mr enc Tryz.prog W 0 (λ_=>true) held fuel t cs=some (.agg (L.map λq=>.agg [.lit (.int .i64 q.1),.lit (.int .i64 q.2)]),p)) {j:Nat}{x:D}(hx:(wY L)[j]? = some x):∃v,cs[j]? = some v/\R1 (cW W).I (cW W).J W v x:=by
 obtain⟨q,hq,rfl⟩:=pairs_get hx;obtain⟨xs,m,_,ex,_,hl,hel⟩:=C8 ht h;simp only[J5,Ct]at ex;have hlt:j / 2<n:=by
  rw[←hn];rcases M0 (j / 2) L.length with h' |h'
  ·exact h'
  ·rw[My h']at hq;cases hq
 have h1:=hel (j / 2) hlt;have hy:∃y,xs[j / 2]? = some y/\y.1 = .agg [.lit (.int .i64 q.1),.lit (.int .i64 q.2)]:=by
  have h2:=Mz (λl=>l[j / 2]?) ex.1;simp only[M6,hq,Ly]at h2;cases hxs:xs[j / 2]? with
  |none=>rw[hxs]at h2;cases h2
  |some y=>rw[hxs]at h2;exact⟨y,rfl,(L9 h2).symm⟩
 obtain⟨y,hy1,hy2⟩:=hy;rw[hy1,c128]at h1;obtain⟨y1,y2⟩:=y;simp only at hy2;subst hy2;obtain⟨ys,m2,_,ey,_,hl2,hel2⟩:=C8 u128 h1;simp only[J5,Ct]at ey;have key:∀r,r<2->∀z,[q.1,q.2][r]? = some z->cs[j / 2*2+r]? = some (.int .i64 z):=by
  intro r hr z hz;have h3:=hel2 r hr;have h4:=Mz (λl=>l[r]?) ey.1;simp only[M6]at h4;have h5:[(Nk.lit (.int .i64 q.1):Nk H),.lit (.int .i64 q.2)][r]? = some (.lit (.int .i64 z)):=by
   match r,hr,hz with
   |0,_,hz=>simp at hz;subst hz;rfl
   |1,_,hz=>simp at hz;subst hz;rfl
  rw[h5]at h4;cases hys:ys[r]? with
  |none=>rw[hys]at h4;cases h4
  |some u =>
   rw[hys,c3]at h3;rw[hys]at h4;obtain⟨u1,u2⟩:=u;simp only[Ly,K0]at h4;subst h4;obtain⟨a,e0,f0,_⟩:=Kf (k:= .i64) Tryz.underlying3 h3;simp only[J5,Af,KK.int.injEq]at f0;have h6:=Sw e0;rw[Nat.mul_one,Ld,Nf hr,ON.getElem?_drop]at h6;rw[h6,f0.1.2]
 rcases Nat.mod_two_eq_zero_or_one j with hm|hm
 ·have:=key 0 (by omega) q.1 rfl;rw[Nf hm];exact⟨_,by rw[←this];congr 1;omega,.int _ _⟩
 ·have:=key 1 (by omega) q.2 rfl;rw[N2 (by omega)];exact⟨_,by rw[←this];congr 1;omega,.int _ _⟩
end
theorem tD {es L:ON (D×D)}(q:D×D->Bool) (h:∀kv,kv∈es↔kv∈L) (hq:L.all q=true):es.all q=true:=by rw[ND]at hq ⊢;exact λx hx=>hq x ((h x).1 hx)
def duE:ON (D×D):=duL.map λp=>(OH .i64 p.1,OH .i64 p.2)
theorem iK {P:Ng}{W:N4}{t k e:TypeId}(ht:P.underlying t=some (.map k e)) (hkey:∀v l,keyOf P k v=some l->R1 (cW W).I (cW W).J W v (litD l)) {fuel:Nat}{cs:ON Value}{L:ON (KK×Nk (ON UInt8))}{p:ON MB}(h:Mr (funcToken P) P W 0 (λ_=>true) true fuel t cs=some (.map L,p)) (el:Nk (ON UInt8)->Nat) (hel:∀x∈L,∀n v q,elemAt (funcToken P) P W 0 (λ_=>true) true n e v=some (x.2,q)->v = .func (.func (el x.2)) #[] #[]):∃(es:ON (D×D)) (v:Value),cs=[v]/\R1 (cW W).I (cW W).J W v (.gmap es)/\∀kv,kv∈es↔kv∈L.map λx=>(litD x.1,MN (el x.2)):=by
 rcases open_map ht h with⟨_,hx⟩|⟨b,ents,clk,n,_,rfl,hb,_,F,hx⟩
 ·cases hx
 simp only[J5,Cu]at hx;have hL:∀y,y∈L↔ ∃x∈ents.toList,rg P k (elemAt (funcToken P) P W 0 (λ_=>true) true n e) x=y:=by intro y;rw[hx.1,mF,Mj]
 refine⟨ents.toList.map λx=>(litD (rg P k (elemAt (funcToken P) P W 0 (λ_=>true) true n e) x).1,MN (el (rg P k (elemAt (funcToken P) P W 0 (λ_=>true) true n e) x).2)),_,rfl,?_,λkv=>?_⟩
 ·have key:∀(i:Nat) kv,(ents.toList.map λx=>(litD (rg P k (elemAt (funcToken P) P W 0 (λ_=>true) true n e) x).1,MN (el (rg P k (elemAt (funcToken P) P W 0 (λ_=>true) true n e) x).2)))[i]? = some kv->R1 (cW W).I (cW W).J W (ents.getD i default).key kv.1/\R1 (cW W).I (cW W).J W (ents.getD i default).val kv.2:=by
   intro i kv hi;rw[M6,KB]at hi;obtain⟨x,hx1,rfl⟩:=hi;have hg:ents.getD i default=x:=by rw[KA]at hx1;simp[Lk,hx1]
   have hm:=MX hx1;obtain⟨y,hy⟩:=F.reads x hm;have hyL:=(hL y).2 ⟨x,hm,rg_of hy⟩;rw[hg,rg_of hy];obtain⟨z,hz,hz2⟩:=rd_val hy;refine⟨hkey _ _ (rd_key hy),?_⟩;have hv:=hel y hyL n x.val z.2 (by rw[hz2];exact hz);show R1 _ _ W x.val (.fn (el y.2));rw[hv];exact .fn _
  exact .gmap b ents clk _ ⟨ents,clk,hb⟩ hb (by simp) (λi kv h=>(key i kv h).1) (λi kv h=>(key i kv h).2)
 ·simp only[Mj];constructor
  ·rintro⟨x,hx,rfl⟩;exact⟨_,(hL _).2 ⟨x,hx,rfl⟩,rfl⟩
  ·rintro⟨y,hy,rfl⟩;obtain⟨x,hx,rfl⟩:=(hL y).1 hy;exact⟨x,hx,rfl⟩
def Wb (tab:ON (ON UInt8×Nat)):Nk (ON UInt8)->Nat
 |.held s=>(tab.lookup s).getD 0
 |_=>0
theorem kM (L:ON (Int×Nat)) (hL:(L.map N7).Nodup) {es:ON (D×D)}(h:∀kv,kv∈es↔kv∈L.map λp=>(OH .i64 p.1,MN p.2)) (k:Int):zX es (.int .i64 k)=(L.lookup k).map .fn:=by
 rw[uS _ h ?_]
 ·clear h hL;induction L with
  |nil=>rfl
  |cons p r ih =>
   obtain⟨a,b⟩:=p;unfold zX at ih ⊢;rw[Mf,KP,G7];simp only[beqD];cases hk:k==a with
   |true=>rfl
   |false=>exact ih
 ·intro kv h1 kv' h2 e1 e2;obtain⟨p,hp,rfl⟩:=Mj.1 h1;obtain⟨q,hq,rfl⟩:=Mj.1 h2;simp only[beqD,beq_iff_eq]at e1 e2;have:p=q:=lV.inj_fst hL hp hq (e1.symm.trans e2);rw[this]
theorem Rt (L:ON (ON UInt8×Nat)) (hL:(L.map N7).Nodup) {es:ON (D×D)}(h:∀kv,kv∈es↔kv∈L.map λp=>(NZ p.1,MN p.2)) (k:ON UInt8):zX es (.str k)=(L.lookup k).map .fn:=by
 rw[uS _ h ?_]
 ·clear h hL;induction L with
  |nil=>rfl
  |cons p r ih =>
   obtain⟨a,b⟩:=p;unfold zX at ih ⊢;rw[Mf,KP,G7];simp only[beqD];cases hk:k==a with
   |true=>rfl
   |false=>exact ih
 ·intro kv h1 kv' h2 e1 e2;obtain⟨p,hp,rfl⟩:=Mj.1 h1;obtain⟨q,hq,rfl⟩:=Mj.1 h2;simp only[beqD,beq_iff_eq]at e1 e2;have:p=q:=lV.inj_fst hL hp hq (e1.symm.trans e2);rw[this]
def esT:ON (ON UInt8×Nat):=[([99,104,97,108,107,108,105,110,101,47,101,118,97,108,46,115,105,103,110,115,36,50],312),([99,104,97,108,107,108,105,110,101,47,101,118,97,108,46,115,105,103,110,115,36,51],313),([99,104,97,108,107,108,105,110,101,47,101,118,97,108,46,115,105,103,110,115,36,52],314),([99,104,97,108,107,108,105,110,101,47,101,118,97,108,46,115,105,103,110,115,36,49],311),([99,104,97,108,107,108,105,110,101,47,101,118,97,108,46,115,105,103,110,115,36,53],315),([99,104,97,108,107,108,105,110,101,47,101,118,97,108,46,115,105,103,110,115,36,54],316)]
def esW:ON (KK×Nk (ON UInt8)):=[(.string [33,61],.held [99,104,97,108,107,108,105,110,101,47,101,118,97,108,46,115,105,103,110,115,36,50]),(.string [60],.held [99,104,97,108,107,108,105,110,101,47,101,118,97,108,46,115,105,103,110,115,36,51]),(.string [60,61],.held [99,104,97,108,107,108,105,110,101,47,101,118,97,108,46,115,105,103,110,115,36,52]),(.string [61],.held [99,104,97,108,107,108,105,110,101,47,101,118,97,108,46,115,105,103,110,115,36,49]),(.string [62],.held [99,104,97,108,107,108,105,110,101,47,101,118,97,108,46,115,105,103,110,115,36,53]),(.string [62,61],.held [99,104,97,108,107,108,105,110,101,47,101,118,97,108,46,115,105,103,110,115,36,54])]
theorem QU (W:N4):∀x∈esW,∀n v q,elemAt (funcToken Tryz.prog) Tryz.prog W 0 (λ_=>true) true n 98 v=some (x.2,q)->v = .func (.func (Wb esT x.2)) #[] #[]:=by
 intro x hx n v q h;unfold elemAt at h;split at h
 ·rename_i hf;have hv:v.cells.toList=[v]:=by cases v<;>first|rfl|(simp[Gi,Tryz.underlying98]at hf)
  rw[hv]at h;simp only[esW,MU,Ja,or_false]at hx;rcases hx with rfl|rfl|rfl|rfl|rfl|rfl
  ·exact func_of_trod (f0:=312) Tryz.underlying98 (by kernel_rfl) h
  ·exact func_of_trod (f0:=313) Tryz.underlying98 (by kernel_rfl) h
  ·exact func_of_trod (f0:=314) Tryz.underlying98 (by kernel_rfl) h
  ·exact func_of_trod (f0:=311) Tryz.underlying98 (by kernel_rfl) h
  ·exact func_of_trod (f0:=315) Tryz.underlying98 (by kernel_rfl) h
  ·exact func_of_trod (f0:=316) Tryz.underlying98 (by kernel_rfl) h
 ·cases h
def eaT:ON (ON UInt8×Nat):=[([99,104,97,108,107,108,105,110,101,47,101,118,97,108,46,97,116,111,109,115,36,49],317),([99,104,97,108,107,108,105,110,101,47,101,118,97,108,46,97,116,111,109,115,36,50],318),([99,104,97,108,107,108,105,110,101,47,101,118,97,108,46,97,116,111,109,115,36,51],319),([99,104,97,108,107,108,105,110,101,47,101,118,97,108,46,97,116,111,109,115,36,52],321),([99,104,97,108,107,108,105,110,101,47,101,118,97,108,46,97,116,111,109,115,36,53],323),([99,104,97,108,107,108,105,110,101,47,101,118,97,108,46,97,116,111,109,115,36,54],325)]
def eaW:ON (KK×Nk (ON UInt8)):=[(.int .i64 3,.held [99,104,97,108,107,108,105,110,101,47,101,118,97,108,46,97,116,111,109,115,36,49]),(.int .i64 4,.held [99,104,97,108,107,108,105,110,101,47,101,118,97,108,46,97,116,111,109,115,36,50]),(.int .i64 5,.held [99,104,97,108,107,108,105,110,101,47,101,118,97,108,46,97,116,111,109,115,36,51]),(.int .i64 6,.held [99,104,97,108,107,108,105,110,101,47,101,118,97,108,46,97,116,111,109,115,36,52]),(.int .i64 7,.held [99,104,97,108,107,108,105,110,101,47,101,118,97,108,46,97,116,111,109,115,36,53]),(.int .i64 8,.held [99,104,97,108,107,108,105,110,101,47,101,118,97,108,46,97,116,111,109,115,36,54])]
theorem QT (W:N4):∀x∈eaW,∀n v q,elemAt (funcToken Tryz.prog) Tryz.prog W 0 (λ_=>true) true n 213 v=some (x.2,q)->v = .func (.func (Wb eaT x.2)) #[] #[]:=by
 intro x hx n v q h;unfold elemAt at h;split at h
 ·rename_i hf;have hv:v.cells.toList=[v]:=by cases v<;>first|rfl|(simp[Gi,Tryz.underlying213]at hf)
  rw[hv]at h;simp only[eaW,MU,Ja,or_false]at hx;rcases hx with rfl|rfl|rfl|rfl|rfl|rfl
  ·exact func_of_trod (f0:=317) Tryz.underlying213 (by kernel_rfl) h
  ·exact func_of_trod (f0:=318) Tryz.underlying213 (by kernel_rfl) h
  ·exact func_of_trod (f0:=319) Tryz.underlying213 (by kernel_rfl) h
  ·exact func_of_trod (f0:=321) Tryz.underlying213 (by kernel_rfl) h
  ·exact func_of_trod (f0:=323) Tryz.underlying213 (by kernel_rfl) h
  ·exact func_of_trod (f0:=325) Tryz.underlying213 (by kernel_rfl) h
 ·cases h
def akT:ON (ON UInt8×Nat):=[([99,104,97,108,107,108,105,110,101,47,97,117,100,105,116,46,112,117,98,108,105,115,104,101,100],300),([99,104,97,108,107,108,105,110,101,47,97,117,100,105,116,46,107,105,110,100,115,36,49],301),([99,104,97,108,107,108,105,110,101,47,97,117,100,105,116,46,107,105,110,100,115,36,50],302),([99,104,97,108,107,108,105,110,101,47,97,117,100,105,116,46,97,115,107,101,100],303),([99,104,97,108,107,108,105,110,101,47,97,117,100,105,116,46,107,105,110,100,115,36,51],304),([99,104,97,108,107,108,105,110,101,47,97,117,100,105,116,46,107,105,110,100,115,36,52],305)]
def akW:ON (KK×Nk (ON UInt8)):=[(.int .i64 1,.held [99,104,97,108,107,108,105,110,101,47,97,117,100,105,116,46,112,117,98,108,105,115,104,101,100]),(.int .i64 2,.held [99,104,97,108,107,108,105,110,101,47,97,117,100,105,116,46,107,105,110,100,115,36,49]),(.int .i64 3,.held [99,104,97,108,107,108,105,110,101,47,97,117,100,105,116,46,107,105,110,100,115,36,50]),(.int .i64 4,.held [99,104,97,108,107,108,105,110,101,47,97,117,100,105,116,46,97,115,107,101,100]),(.int .i64 5,.held [99,104,97,108,107,108,105,110,101,47,97,117,100,105,116,46,107,105,110,100,115,36,51]),(.int .i64 6,.held [99,104,97,108,107,108,105,110,101,47,97,117,100,105,116,46,107,105,110,100,115,36,52])]
theorem QS (W:N4):∀x∈akW,∀n v q,elemAt (funcToken Tryz.prog) Tryz.prog W 0 (λ_=>true) true n 49 v=some (x.2,q)->v = .func (.func (Wb akT x.2)) #[] #[]:=by
 intro x hx n v q h;unfold elemAt at h;split at h
 ·rename_i hf;have hv:v.cells.toList=[v]:=by cases v<;>first|rfl|(simp[Gi,Tryz.underlying49]at hf)
  rw[hv]at h;simp only[akW,MU,Ja,or_false]at hx;rcases hx with rfl|rfl|rfl|rfl|rfl|rfl
  ·exact func_of_trod (f0:=300) Tryz.underlying49 (by kernel_rfl) h
  ·exact func_of_trod (f0:=301) Tryz.underlying49 (by kernel_rfl) h
  ·exact func_of_trod (f0:=302) Tryz.underlying49 (by kernel_rfl) h
  ·exact func_of_trod (f0:=303) Tryz.underlying49 (by kernel_rfl) h
  ·exact func_of_trod (f0:=304) Tryz.underlying49 (by kernel_rfl) h
  ·exact func_of_trod (f0:=305) Tryz.underlying49 (by kernel_rfl) h
 ·cases h
end
end Go.Fo
namespace Go.Fo
open Go Go.Sx Go.Proofs
open Go.ChangeShapes Go.WideShapes Go.RowKit
section
open Go.Proofs.YtfegegkkdfkllaaGreatDoor (Rows.uptoBulk Rows.uptoBulkAll Rows.uptoSmall Rows.laid_chalkline_formula_arity Rows.laid_chalkline_formula_signs Rows.laid_chalkline_formula_reserved Rows.laid_chalkline_types_asks Rows.laid_chalkline_types_takes Rows.laid_chalkline_eval_signs Rows.laid_chalkline_eval_atoms Rows.laid_chalkline_audit_kinds)
theorem ab {P:Ng}{l:ON (JQ×Nk Lf)}{w:N4}(h:laidMetH P l w):laidMet P (l.filter λx=>x.2.handleName?.isNone) w:=by
 unfold laidMetH at h;generalize hfl:(l.filter λx=>x.2.handleName?.isSome)=fl at h;cases fl with
 |nil =>
  have e:(l.filter λx=>x.2.handleName?.isNone)=l:=by
   rw[ON.filter_eq_self];intro x hx;have:=(ON.filter_eq_nil_iff.1 hfl) x hx;cases hn:x.2.handleName? with
   |none=>rfl
   |some s=>rw[hn]at this;exact No rfl this
  rw[e];exact h
 |cons a aas=>exact h.1
theorem ct {P:Ng}{w:N4}{g:Nat}{t:TypeId}{k:OA}{zero:OC Value}(h:w.ShapedOpen P) (hg:g<P.globals.size) (h0:((begin P (λ_ _=>0) default).world.heap[g]?).bind Obj.row? = some (zero,t)) (hz:zero.size=1) (hb:P.buildable t=true) (hc:P.cellTypes P.depth t=some [t]) (hu:P.underlying t=some (.int k)):∃n,w.cell? ⟨g,0,none⟩=some (.int k n):=by
 obtain⟨cs,hh,hs,hr⟩:=h.1 g zero t hg h0;obtain⟨ts,hts,_,hall⟩:=hr hb;rw[hc]at hts;cases hts;have h1:0<cs.size:=by omega
 obtain⟨u,hu',hok⟩:=hall 0 cs[0] (by simp[h1]);have:u=t:=by simpa using hu'.symm
 subst this;have hcell:w.cell? ⟨g,0,none⟩=some cs[0]:=by simp[Ko,hh,h1]
 rw[hcell];unfold Cell.ok at hok;rw[hu]at hok;cases hv:cs[0]<;>rw[hv]at hok<;>simp at hok
 exact⟨_,by rw[hok.1]⟩
def datOf:Nk Lf->Nk Lf
 |.iface _ d=>d
 |d=>d
theorem es_dat:(Rows.laid_chalkline_eval_signs:Nk Lf) = .iface "func table" (datOf Rows.laid_chalkline_eval_signs):=rfl
theorem es_out:(datOf Rows.laid_chalkline_eval_signs).funcsOut = .map esW:=by kernel_rfl
theorem Rs (kv:D×D):kv∈esW.map (λx=>(litD x.1,MN (Wb esT x.2)))↔kv∈esL.map λp=>(NZ p.1,MN p.2):=by
 have e:esW.map (λx=>(litD x.1,MN (Wb esT x.2)))=[(NZ [33,61],MN 312),(NZ [60],MN 313),(NZ [60,61],MN 314),(NZ [61],MN 311),(NZ [62],MN 315),(NZ [62,61],MN 316)]:=by kernel_rfl
 rw[e];simp only[esL,Mf,LO,MU,Ja,or_false];try (constructor<;>(intro h;rcases h with rfl|rfl|rfl|rfl|rfl|rfl<;>simp))
theorem ea_dat:(Rows.laid_chalkline_eval_atoms:Nk Lf) = .iface "func table" (datOf Rows.laid_chalkline_eval_atoms):=rfl
theorem ea_out:(datOf Rows.laid_chalkline_eval_atoms).funcsOut = .map eaW:=by kernel_rfl
theorem Rr (kv:D×D):kv∈eaW.map (λx=>(litD x.1,MN (Wb eaT x.2)))↔kv∈eaL.map λp=>(OH .i64 p.1,MN p.2):=by
 have e:eaW.map (λx=>(litD x.1,MN (Wb eaT x.2)))=[(OH .i64 3,MN 317),(OH .i64 4,MN 318),(OH .i64 5,MN 319),(OH .i64 6,MN 321),(OH .i64 7,MN 323),(OH .i64 8,MN 325)]:=by kernel_rfl
 rw[e];simp only[eaL,Mf,LO,MU,Ja,or_false];try (constructor<;>(intro h;rcases h with rfl|rfl|rfl|rfl|rfl|rfl<;>simp))
theorem ak_dat:(Rows.laid_chalkline_audit_kinds:Nk Lf) = .iface "func table" (datOf Rows.laid_chalkline_audit_kinds):=rfl
theorem ak_out:(datOf Rows.laid_chalkline_audit_kinds).funcsOut = .map akW:=by kernel_rfl
theorem Rq (kv:D×D):kv∈akW.map (λx=>(litD x.1,MN (Wb akT x.2)))↔kv∈akL.map λp=>(OH .i64 p.1,MN p.2):=by
 have e:akW.map (λx=>(litD x.1,MN (Wb akT x.2)))=[(OH .i64 1,MN 300),(OH .i64 2,MN 301),(OH .i64 3,MN 302),(OH .i64 4,MN 303),(OH .i64 5,MN 304),(OH .i64 6,MN 305)]:=by kernel_rfl
 rw[e];simp only[akL,Mf,LO,MU,Ja,or_false];try (constructor<;>(intro h;rcases h with rfl|rfl|rfl|rfl|rfl|rfl<;>simp))
theorem Sv {W:N4}{laid:ON (JQ×Nk Lf)}(hH:laidMetH Tryz.prog laid W) (hS:W.ShapedOpen Tryz.prog) (h0:("chalkline/formula.arity",Rows.laid_chalkline_formula_arity)∈laid) (h1:("chalkline/formula.signs",Rows.laid_chalkline_formula_signs)∈laid) (h3:("chalkline/formula.reserved",Rows.laid_chalkline_formula_reserved)∈laid) (ha:("chalkline/types.asks",Rows.laid_chalkline_types_asks)∈laid) (hk:("chalkline/types.takes",Rows.laid_chalkline_types_takes)∈laid) (h5:("chalkline/eval.signs",Rows.laid_chalkline_eval_signs)∈laid) (h6:("chalkline/eval.atoms",Rows.laid_chalkline_eval_atoms)∈laid) (h7:("chalkline/audit.kinds",Rows.laid_chalkline_audit_kinds)∈laid):∃(M:Mk) (m:Int),M.Ok/\M.Fn/\GR (GA M m) (cW W) W:=by
 obtain⟨ps,h,_⟩:=ab hH;replace h0:=Lh (p:=λx:JQ×Nk Lf=>x.2.handleName?.isNone)|>.2 ⟨h0,by kernel_rfl⟩
 replace h1:=Lh (p:=λx:JQ×Nk Lf=>x.2.handleName?.isNone)|>.2 ⟨h1,by kernel_rfl⟩
 replace h3:=Lh (p:=λx:JQ×Nk Lf=>x.2.handleName?.isNone)|>.2 ⟨h3,by kernel_rfl⟩
 replace ha:=Lh (p:=λx:JQ×Nk Lf=>x.2.handleName?.isNone)|>.2 ⟨ha,by kernel_rfl⟩
 replace hk:=Lh (p:=λx:JQ×Nk Lf=>x.2.handleName?.isNone)|>.2 ⟨hk,by kernel_rfl⟩
 obtain⟨g,t,cs,fuel,p,a1,a2,a3,a4⟩:=qi h h0;obtain rfl:=L9 ((show Tryz.prog.globalNamed "chalkline/formula.arity" = some 5 by kernel_rfl).symm.trans a1);obtain rfl:=L9 ((show(Tryz.prog.globals[5]?).map (·.type)=some 262 by kernel_rfl).symm.trans a2);obtain⟨ar,var,ear,rar,mar⟩:=cx u262 (cw Tryz.underlying3) (Rw Tryz.underlying3) a4;have car:=(JK a1 a3 0).trans (qB ear);clear a1 a2 a3 a4;obtain⟨g,t,cs,fuel,p,a1,a2,a3,a4⟩:=qi h h1;obtain rfl:=L9 ((show Tryz.prog.globalNamed "chalkline/formula.signs" = some 6 by kernel_rfl).symm.trans a1);obtain rfl:=L9 ((show(Tryz.prog.globals[6]?).map (·.type)=some 263 by kernel_rfl).symm.trans a2);obtain⟨si,vsi,esi,rsi,msi⟩:=cx u263 (cu Tryz.underlying9) (Rv Tryz.underlying9) a4;have csi:=(JK a1 a3 0).trans (qB esi);clear a1 a2 a3 a4;obtain⟨g,t,cs,fuel,p,a1,a2,a3,a4⟩:=qi h h3;obtain rfl:=L9 ((show Tryz.prog.globalNamed "chalkline/formula.reserved" = some 8 by kernel_rfl).symm.trans a1);obtain rfl:=L9 ((show(Tryz.prog.globals[8]?).map (·.type)=some 122 by kernel_rfl).symm.trans a2);obtain⟨re,vre,ere,rre,mre⟩:=cx u122 (cu Tryz.underlying9) (Sy u4) a4;have cre:=(JK a1 a3 0).trans (qB ere);clear a1 a2 a3 a4;obtain⟨g,t,cs,fuel,p,a1,a2,a3,a4⟩:=qi h ha;obtain rfl:=L9 ((show Tryz.prog.globalNamed "chalkline/types.asks" = some 3 by kernel_rfl).symm.trans a1);obtain rfl:=L9 ((show(Tryz.prog.globals[3]?).map (·.type)=some 251 by kernel_rfl).symm.trans a2);have ra:∀(j:Nat) x,(wY askL)[j]? = some x->(cW W).I 3 j/\∃v,W.cell? ⟨3,j,none⟩=some v/\R1 (cW W).I (cW W).J W v x:=by intro j x hx;obtain⟨v,hv,hr⟩:=fc (L:=askL) u251 rfl a4 hx;have hv':W.cell? ⟨3,j,none⟩=some v:=(JK a1 a3 j).trans (by rw[←KA];exact hv);exact⟨⟨v,hv'⟩,v,hv',hr⟩
 clear a1 a2 a3 a4;obtain⟨g,t,cs,fuel,p,a1,a2,a3,a4⟩:=qi h hk;obtain rfl:=L9 ((show Tryz.prog.globalNamed "chalkline/types.takes" = some 7 by kernel_rfl).symm.trans a1);obtain rfl:=L9 ((show(Tryz.prog.globals[7]?).map (·.type)=some 267 by kernel_rfl).symm.trans a2);have rt:∀(j:Nat) x,(wY takL)[j]? = some x->(cW W).I 7 j/\∃v,W.cell? ⟨7,j,none⟩=some v/\R1 (cW W).I (cW W).J W v x:=by intro j x hx;obtain⟨v,hv,hr⟩:=fc (L:=takL) u267 rfl a4 hx;have hv':W.cell? ⟨7,j,none⟩=some v:=(JK a1 a3 j).trans (by rw[←KA];exact hv);exact⟨⟨v,hv'⟩,v,hv',hr⟩
 clear a1 a2 a3 a4;rw[es_dat]at h5;obtain⟨g,t,cs,fuel,p,a1,a2,a3,a4⟩:=hH.funcs h5;obtain rfl:=L9 ((show Tryz.prog.globalNamed "chalkline/eval.signs" = some 1 by kernel_rfl).symm.trans a1);obtain rfl:=L9 ((show(Tryz.prog.globals[1]?).map (·.type)=some 211 by kernel_rfl).symm.trans a2);rw[es_out]at a4;obtain⟨es,ves,ees,res,mes⟩:=iK u211 (cu Tryz.underlying9) a4 (Wb esT) (QU W);have ces:=(JK a1 a3 0).trans (qB ees);replace mes:=λkv=>(mes kv).trans (Rs kv)
 clear a1 a2 a3 a4;rw[ea_dat]at h6;obtain⟨g,t,cs,fuel,p,a1,a2,a3,a4⟩:=hH.funcs h6;obtain rfl:=L9 ((show Tryz.prog.globalNamed "chalkline/eval.atoms" = some 2 by kernel_rfl).symm.trans a1);obtain rfl:=L9 ((show(Tryz.prog.globals[2]?).map (·.type)=some 215 by kernel_rfl).symm.trans a2);rw[ea_out]at a4;obtain⟨ea,vea,eea,rea,mea⟩:=iK u215 (cw Tryz.underlying3) a4 (Wb eaT) (QT W);have cea:=(JK a1 a3 0).trans (qB eea);replace mea:=λkv=>(mea kv).trans (Rr kv)
 clear a1 a2 a3 a4;rw[ak_dat]at h7;obtain⟨g,t,cs,fuel,p,a1,a2,a3,a4⟩:=hH.funcs h7;obtain rfl:=L9 ((show Tryz.prog.globalNamed "chalkline/audit.kinds" = some 0 by kernel_rfl).symm.trans a1);obtain rfl:=L9 ((show(Tryz.prog.globals[0]?).map (·.type)=some 91 by kernel_rfl).symm.trans a2);rw[ak_out]at a4;obtain⟨ak,vak,eak,rak,mak⟩:=iK u91 (cw Tryz.underlying3) a4 (Wb akT) (QS W);have cak:=(JK a1 a3 0).trans (qB eak);replace mak:=λkv=>(mak kv).trans (Rq kv)
 clear a1 a2 a3 a4;obtain⟨m,hm⟩:=ct (g:=4) (t:=3) (k:= .i64) (zero:= #[.int .i64 0]) hS (M3 (by kernel_rfl)) (by kernel_rfl) rfl (by kernel_rfl) (by kernel_rfl) Tryz.underlying3;have n3:∀kv,kv∈re↔kv∈words.map λp=>(NZ p,OD true):=by have m3' :∀kv,kv∈re↔kv∈resK.map λp=>(NZ p,OD true):=mre;intro kv;rw[m3'];simp only[Mj,Tp]
 refine⟨⟨ar,si,duE,re,true,ak,es,ea⟩,m,⟨tD _ mar (by kernel_rfl),tD _ msi (by kernel_rfl),(by kernel_rfl),tD _ mre (by kernel_rfl),lV arL (by decide) mar,QW siL (by decide) msi,lV duL (by decide) (λ_=>Iff.rfl),QV words n3⟩,⟨tD _ mes (by kernel_rfl),tD _ mea (by kernel_rfl),tD _ mak (by kernel_rfl),Rt esL (by decide) mes,kM eaL (by decide) mea,kM akL (by decide) mak⟩,?_⟩;intro g cs hg j x hx;have one:∀{d:D}{v:Value}{g:Nat},cs=[d]->W.cell? ⟨g,0,none⟩=some v->R1 (cW W).I (cW W).J W v d->(cW W).I g j/\∃v,W.cell? ⟨g,j,none⟩=some v/\R1 (cW W).I (cW W).J W v x:=by
  intro d v g hc hv hr;subst hc;match j,hx with
  |0,hx =>
   simp only[ON.getElem?_cons_zero,K0]at hx;subst hx;exact⟨⟨v,hv⟩,v,hv,hr⟩
 match g,hg with
 |0,hg=>exact one (L9 hg).symm cak rak
 |1,hg=>exact one (L9 hg).symm ces res
 |2,hg=>exact one (L9 hg).symm cea rea
 |3,hg=>exact ra j x (by rw[L9 hg];exact hx)
 |4,hg=>exact one (L9 hg).symm hm (.int _ _)
 |5,hg=>exact one (L9 hg).symm car rar
 |6,hg=>exact one (L9 hg).symm csi rsi
 |7,hg=>exact rt j x (by rw[L9 hg];exact hx)
 |8,hg=>exact one (L9 hg).symm cre rre
 |_+9,hg=>cases hg
theorem laidOut:laidOutB Tryz.prog=true:=by kernel_rfl
section
variable {H:Type}{enc:TypeId×Value->H}{W:N4}
theorem iB {W':N4}(hb:Below W.heap.size W W'):∀{ts:ON TypeId}{vs:ON Value}{ds:ON (Nk H)}{ps:ON MB},(∀t∈ts,Tryz.prog.readableRec t=true/\t<Tryz.prog.types.size)->Eg enc Tryz.prog W 0 (λ_=>true) true ts vs ds ps->(∀x∈ps,x.block<W.heap.size)->Eg enc Tryz.prog W' 0 (λb=>decide (b<W.heap.size)) true ts vs ds ps:=by
 intro ts;induction ts with
 |nil =>
  intro vs ds ps _ h _;cases vs<;>cases ds<;>simp[Eg]at h ⊢
  exact h
 |cons t ts ih =>
  intro vs ds ps ht h hlt;obtain⟨v,vs',d,ds',p,q,rfl,rfl,rfl,h1,h2⟩:=trodAll_cons h;exact trodAll_cons_mk (Below.trod laidOut (ht t (by simp)).1 (ht t (by simp)).2 h1 hb λx hx=>hlt x (by simp[hx])) (ih (λt' h'=>ht t' (by simp[h'])) h2 λx hx=>hlt x (by simp[hx]))
theorem Wh {G:Nat->OK (ON D)}{f:FuncId}{fn:Func}{s:ChangeSpec}{args:OC Value}{ds gs:ON (Nk H)}{before:ON MB}{xs:ON D}(hr:fn.resultTypes = #[4]) (hv:s.vars=[]) (hfn:∀H (ds':ON (Nk H)),ds'.length=ds.length->(s.fn H ds').results=[.lit (.bool true)]/\(s.fn H ds').args=ds'/\(s.fn H ds').vars=[]) (hts:∀t∈fn.params.toList,Tryz.prog.readableRec t=true/\t<Tryz.prog.types.size) (hW:Bo enc Tryz.prog fn.params.toList s.vars false W args.toList ds gs before) (hx:z8 (RV (cW W).I (cW W).J W) args.toList xs) (hG:GR G (cW W) W) (h:OB Tryz.prog G f xs (· = [.bool true])): Calls Tryz.prog f args W λe W'=>∃v,e = .returned v/\s.post enc Tryz.prog fn false true false false W args v W':=by
 have hc:=h.run (cW W) W args.toList rfl (OT W) hG hx;rw[OC.toArray_toList]at hc;refine hc.mono λe W' hq=>?_;obtain⟨v,rs,c',rfl,rfl,hρ,he,hR,hres⟩:=hq;have hvb:v = .bool true:=by have h1:RV c'.I c'.J W' v (.bool true):=hres;simp only[RV]at h1;cases h1;rfl
 subst hvb;have hb:Below W.heap.size W W':=⟨he.os,he.tape,he.output,he.size,λk hk=>he.frame k hk λl k' hh=>by simp[cW]at hh⟩;have hlt:=hW.lt;have hW':=hW;obtain⟨p,q,hA,hV,rfl,hfz,hnd⟩:=hW;rw[hv]at hV;obtain⟨rfl,rfl⟩:=trodVars_none hV;obtain⟨e1,e2,e3⟩:=hfn H (ds++[]) (by simp);refine⟨_,rfl,ds,[],p++[],[],p,[],hW',?_,?_,?_,hb.frame _,λh=>by cases h⟩
 ·rw[e1,hr];exact trodAll_mk1 (shut_bool u4 _)
 ·rw[e2,ON.append_nil];exact iB hb hts hA λx hx=>hlt x (by simp[hx])
 ·rw[e3,hv];rfl
theorem Wg {f:FuncId}{fn:Func}{s:ChangeSpec}{args:OC Value}{ds gs:ON (Nk H)}{before:ON MB}{laid:ON (JQ×Nk Lf)}{xs:ON D}(hr:fn.resultTypes = #[4]) (hv:s.vars=[]) (hfn:∀H (ds':ON (Nk H)),ds'.length=ds.length->(s.fn H ds').results=[.lit (.bool true)]/\(s.fn H ds').args=ds'/\(s.fn H ds').vars=[]) (hts:∀t∈fn.params.toList,Tryz.prog.readableRec t=true/\t<Tryz.prog.types.size) (hW:Bo enc Tryz.prog fn.params.toList s.vars false W args.toList ds gs before) (hL:laidMetH Tryz.prog laid W) (hS:W.ShapedOpen Tryz.prog) (h0:("chalkline/formula.arity",Rows.laid_chalkline_formula_arity)∈laid) (h1:("chalkline/formula.signs",Rows.laid_chalkline_formula_signs)∈laid) (h3:("chalkline/formula.reserved",Rows.laid_chalkline_formula_reserved)∈laid) (ha:("chalkline/types.asks",Rows.laid_chalkline_types_asks)∈laid) (hk:("chalkline/types.takes",Rows.laid_chalkline_types_takes)∈laid) (h5:("chalkline/eval.signs",Rows.laid_chalkline_eval_signs)∈laid) (h6:("chalkline/eval.atoms",Rows.laid_chalkline_eval_atoms)∈laid) (h7:("chalkline/audit.kinds",Rows.laid_chalkline_audit_kinds)∈laid) (hx:z8 (RV (cW W).I (cW W).J W) args.toList xs) (h:∀(M:Mk) (m:Int),M.Ok->M.Fn->OB Tryz.prog (GA M m) f xs (· = [.bool true])): Calls Tryz.prog f args W λe W'=>∃v,e = .returned v/\s.post enc Tryz.prog fn false true false false W args v W':=by obtain⟨M,m,hM,hF,hG⟩:=Sv hL hS h0 h1 h3 ha hk h5 h6 h7;exact Wh hr hv hfn hts hW hx hG (h M m hM hF)
theorem To {ds:ON (Nk H)}(h:Rows.uptoSmall H ds=true):Rows.uptoBulkAll ds<=1048576:=M3 h
theorem QR {base:Nat}{v:Value}{d:Nk H}{p:ON MB}(hok:B0 Tryz.prog W .any base 32 v) (h:Bg enc Tryz.prog W 0 (λ_=>true) true 32 v d p):∃t:Pn,RV (cW W).I (cW W).J W v t.d/\t.wb+1<=Rows.uptoBulk d:=by obtain⟨cs,rfl,_⟩:=okWide_struct Tryz.underlying32 hok;obtain⟨fuel,hf⟩:=h;obtain⟨t,h1,h2⟩:=Ry hf;exact⟨t,⟨cs.toList,by simp,h1⟩,h2⟩
theorem QQ {base:Nat}{v:Value}{d:Nk H}{p:ON MB}(hok:B0 Tryz.prog W .any base 35 v) (h:Bg enc Tryz.prog W 0 (λ_=>true) true 35 v d p):∃t:ON Pl,RV (cW W).I (cW W).J W v (wh t)/\t.length+1<=Rows.uptoBulk d:=by obtain⟨cs,rfl,_⟩:=okWide_struct Tryz.underlying35 hok;obtain⟨fuel,hf⟩:=h;obtain⟨t,h1,h2⟩:=Rx hf;exact⟨t,⟨cs.toList,by simp,h1⟩,h2⟩
end
end
end Go.Fo
