/- A part of the proof. -/
import Derived.Test.YthnkjgpjdbdchaaGreatDoorA10
set_option linter.all false
set_option maxHeartbeats 8000000
set_option maxRecDepth 10000
namespace Go.Scarf
open Go.RowKit
def numOk(i:Nat):Bool:=decide ((Ef (Oi i)).2=0)&&(decide ((Ef (Oi i)).1=CE i)&&(decide (T_ (CE i)=((i:Int),true))&&decide ((Oi i).length<=20)))
theorem num_all:(List.range 1000).all numOk=true:=by kernel_rfl
theorem ZF{i:Nat}(h:i<1000):(Ef (Oi i)).2=0/\(Ef (Oi i)).1=CE i/\T_ (CE i)=((i:Int),true)/\(Oi i).length<=20:=by
  have:=List.all_eq_true.1 num_all i (List.mem_range.2 h);simpa[numOk]using this
theorem HM{i:Nat}(h:i<1000):Ji (Mr i)=i:=by
  obtain⟨h1,h2,h3,-⟩:=ZF h;show (if (7:Int)≠7 then (-1:Int) else if (Ef (Oi i)).2≠0 then -1 else (T_ (Ef (Oi i)).1).1)=_;rw[if_neg Oa,if_neg (by rw[h1];decide),h2,h3]
def NodO(o:Option Tree):Prop:=∀x,o=some x->Zd nodeB x=true
section
variable {f:Str->Nat->Mo}{n:Nat}{ks:List Str}
theorem Xu:∀j,j<=ks.length->((Zn f n ks j).1.map (·.1)).Sublist (ks.take j)
  | 0,_=>by simp[Zn]
  | j + 1, hj => by
    have e:ks.getD j []=ks[j]:=by simp[List.getD,show j<ks.length by omega]
    rw[Zn,jQ,iQ sX,e];refine (Xu j sX).append ?_;cases (f ks[j] (n+(Zn f n ks j).2.length)).1 with
    | none=>exact List.nil_sublist _
    | some x=>exact List.Sublist.refl _
end
theorem IJ{b l r:List Str}:∀(F:Nat)(rest o:List Str),Z5 b l r F rest=some o->∀s∈o,s∈rest
  | 0,_,o,h=>by rw[Z5]at h;obtain rfl:=lQ h;simp
  | F + 1, rest, o, h => by
    rw[Z5]at h;split at h
    ·rename_i s hs
     obtain⟨o',h1,rfl⟩:=Option.map_eq_some_iff.1 h;intro q hq;rcases oQ.1 hq with rfl|hq
     ·exact List.mem_of_find?_eq_some hs
     exact List.mem_of_mem_erase (IJ F _ _ h1 q hq)
    cases h
theorem JV{b l r names o:List Str}(h:Y8 b l r names=some o):∀s∈o,s∈names:=by
  unfold Y8 at h;split at h
  ·intro s hs
   have:=IJ _ _ _ h s hs;unfold Li at this;exact List.mem_mergeSort.1 this
  cases h
theorem at_l{rl:List Rl}{F:Nat}{p:List Str}{n:Nat}{b l r:Option Tree}(h:Hl l r=true):Bk rl (F+1) p n b l r=(l,[]):=by rw[Bk,if_pos h]
theorem at_r{rl:List Rl}{F:Nat}{p:List Str}{n:Nat}{b l r:Option Tree}(h:¬Hl l r=true)(h2:Hl b l=true):Bk rl (F+1) p n b l r=(r,[]):=by rw[Bk,if_neg h,if_pos h2]
theorem at_b{rl:List Rl}{F:Nat}{p:List Str}{n:Nat}{b l r:Option Tree}(h:¬Hl l r=true)(h2:¬Hl b l=true)(h3:Hl b r=true):Bk rl (F+1) p n b l r=(l,[]):=by rw[Bk,if_neg h,if_neg h2,if_pos h3]
theorem at_m{rl:List Rl}{F:Nat}{p:List Str}{n:Nat}{b l r:Option Tree}(h:¬Hl l r=true)(h2:¬Hl b l=true)(h3:¬Hl b r=true):Bk rl (F+1) p n b l r=C2 rl (Bk rl F) p n b l r:=by rw[Bk,if_neg h,if_neg h2,if_neg h3]
theorem L_{v:Tree}{c:List Cf}(h:Ug v=true):US (some v,c)=(v,c,0):=by unfold US;exact if_pos h
theorem Nt{rl:List Rl}{b l r:Tree}(h:¬VU rl b l r):Cj rl b l r=(zeroT,[],1):=if_neg h
theorem Rr{rl:List Rl}{b l r:Tree}(h:VU rl b l r):Cj rl b l r=US (Bk rl (39+1) [] 0 (some b) (some l) (some r)):=if_pos h
theorem G0{rl:List Rl}{b l r:Tree}(h:VU rl b l r)(hs:Ch l r=true):Cj rl b l r=(l,[],0):=by
  rw[Rr h,at_l (l:=some l) (r:=some r) hs,L_ (Nf h.2.1)]
theorem JH{rl:List Rl}{b l r:Tree}(h:VU rl b l r)(hs:¬Ch l r=true)(hb:Ch b l=true):Cj rl b l r=(r,[],0):=by
  rw[Rr h,at_r (b:=some b) (l:=some l) (r:=some r) hs hb,L_ (Nf h.2.2.1)]
theorem mergeV_b{rl:List Rl}{b l r:Tree}(h:VU rl b l r)(hs:¬Ch l r=true)(hb:¬Ch b l=true)(hr:Ch b r=true):Cj rl b l r=(l,[],0):=by
  rw[Rr h,at_b (b:=some b) (l:=some l) (r:=some r) hs hb hr,L_ (Nf h.2.1)]
theorem Sq{x y:Tree}(hx:Sc x=true)(hy:Sc y=true):Ch x y=true↔sortT x=sortT y:=same_iff x (Rn hx) y (Rn hy)
theorem Ep{x:Tree}(h:Sc x=true):Sc (sortT x)=true:=by
  have:=HE x;rw[Vd,if_pos (Nf h),h]at this;exact this
theorem Bq{x y:Tree}(hx:Sc x=true)(hy:Sc y=true):Ix x y=Ch x y:=by
  unfold Ix;rw[Nf hx,Nf hy];rfl
theorem GT{rl:List Rl}{b l:Tree}(hb:Sc b=true)(hl:Sc l=true)(hr:Mv rl=true) :
    Cj rl b l (Vd b)=(l,[],0)/\(∃y,Cj rl b b l=(y,[],0)/\Ix y l=true)/\Cj rl b l (Vd l)=(l,[],0):=by
  rw[Uj (Nf hb),Uj (Nf hl)];have ib:=Z3 b (Rn hb);have il:=Z3 l (Rn hl);refine⟨?_,?_,G0 ⟨hb,hl,Ep hl,hr⟩ ((Sq hl (Ep hl)).2 il.symm)⟩
  ·have hk : VU rl b l (sortT b) := ⟨hb, hl, Ep hb, hr⟩
   by_cases h1:Ch l (sortT b)=true
   ·exact G0 hk h1
   have h2 : ¬ Ch b l = true := λh => h1 ((Sq hl (Ep hb)).2 (by rw[ib];exact ((Sq hb hl).1 h).symm));exact mergeV_b hk h1 h2 ((Sq hb (Ep hb)).2 ib.symm)
  have hk : VU rl b b l := ⟨hb, hb, hl, hr⟩;by_cases h1:Ch b l=true
  ·exact⟨b,G0 hk h1,by rw[Bq hb hl];exact h1⟩
  exact⟨l,JH hk h1 ((Sq hb hb).2 O),by rw[Bq hl hl];exact (Sq hl hl).2 O⟩
theorem LY{rl:List Rl}{b l:Tree}(h:¬(Sc b=true/\Sc l=true/\Mv rl=true)) :
    Cj rl b l (Vd b)=(zeroT,[],1)/\Cj rl b b l=(zeroT,[],1)/\Cj rl b l (Vd l)=(zeroT,[],1) :=
  ⟨Nt λk=>h ⟨k.1,k.2.1,k.2.2.2⟩,Nt λk=>h ⟨k.1,k.2.2.1,k.2.2.2⟩,Nt λk=>h ⟨k.1,k.2.1,k.2.2.2⟩⟩
theorem TB{x:Tree}(h:Ug x=true)(hk:x.kind=6)(key:Str):Xt x key=((Hf x key).getD zeroT,(Hf x key).isSome):=by
  unfold Xt;rw[if_pos ⟨h,hk⟩];show (match Hf x key with|some y=>(y,true)|none=>(zeroT,false))=_;cases Hf x key <;> rfl
theorem UU(p:List Str):B2 [] p=none:=rfl
abbrev Kf:=List Str × Int × Option Tree × Option Tree × Option Tree
def nfS(s:Sd):Option Tree:=if s.has=true then some (sortT s.val) else none
def K1(c:Cf):Kf:=(c.path,c.cls,nfS c.b,nfS c.l,nfS c.r)
def K2(c:Cf):Kf:=(c.path,c.cls,nfS c.b,nfS c.r,nfS c.l)
structure Tn (a b:Mo):Prop where
  perm:(a.2.map K1).Perm (b.2.map K2)
  size:Mj a.1=Mj b.1
  depth:Ko a.1=Ko b.1
  same:a.2=[]->a.1.map sortT=b.1.map sortT
theorem Tn.nil{a b:Mo}(h:Tn a b):a.2=[]↔b.2=[]:=by
  have:=h.perm.length_eq;rw[rQ,rQ]at this;constructor
  ·intro e;rw[e]at this;exact List.eq_nil_of_length_eq_zero this.symm
  intro e;rw[e]at this;exact List.eq_nil_of_length_eq_zero this
theorem Tn.some_{a b:Mo}(h:Tn a b):a.1.isSome=b.1.isSome:=by
  have:=h.size;obtain⟨a1,a2⟩:=a;obtain⟨b1,b2⟩:=b;cases a1 with
  | none => cases b1 with
    | none=>rfl
    | some y=>have:=Dr y;simp[Mj]at *;omega
  | some x => cases b1 with
    | none=>have:=Dr x;simp[Mj]at *;omega
    | some y=>rfl
section
variable {f g:Str->Nat->Mo}{n m:Nat}{ks ks':List Str}
end
theorem GB{b l r:List Str}:∀(F:Nat)(rest o:List Str),rest.length=F->Z5 b l r F rest=some o->o.Perm rest
  | 0, rest, o, hl, h => by
    rw[Z5]at h;obtain rfl:=lQ h;rw[List.eq_nil_of_length_eq_zero hl]
  | F + 1, rest, o, hl, h => by
    rw[Z5]at h;split at h
    ·rename_i s hs
     obtain⟨o',h1,rfl⟩:=Option.map_eq_some_iff.1 h;have hm:=List.mem_of_find?_eq_some hs;have:=GB F _ _ (by rw[List.length_erase_of_mem hm,hl];rfl) h1;exact (this.cons s).trans (List.perm_cons_erase hm).symm
    cases h
theorem RP{b l r names o:List Str}(h:Y8 b l r names=some o):o.Perm names:=by
  unfold Y8 at h;split at h
  ·exact (GB _ _ _ (Ri names) h).trans (Hp names)
  cases h
structure Ln (x y:List Tree) (c d:List Cf):Prop where
  perm:(c.map K1).Perm (d.map K2)
  size:Pb x=Pb y
  depth:Fd x=Fd y
  same:c=[]->x.map sortT=y.map sortT
theorem Ln.append{x y x' y':List Tree}{c d c' d':List Cf}(h:Ln x y c d)(k:Ln x' y' c' d'):Ln (x++x') (y++y') (c++c') (d++d') :=
  ⟨by rw[jQ,jQ];exact h.perm.append k.perm,by rw[Be,Be,h.size,k.size],by rw[Io,Io,h.depth,k.depth],
    λe=>by
      obtain⟨e1,e2⟩:=List.append_eq_nil_iff.1 e;rw[jQ,jQ,h.same e1,k.same e2]⟩
theorem Ln.refl(x:List Tree):Ln x x [] []:=⟨.refl _,rfl,rfl,λ_=>rfl⟩
theorem Ln.of{a b:Mo}(h:Tn a b):Ln a.1.toList b.1.toList a.2 b.2:=by
  obtain⟨a1,a2⟩:=a;obtain⟨b1,b2⟩:=b;have hs:=h.some_;refine⟨h.perm,?_,?_,λe=>?_⟩
  ·have := h.size
   cases a1 <;> cases b1 <;> simp[Mj,Pb]at *
   ·exact this
  ·have := h.depth
   cases a1 <;> cases b1 <;> simp[Ko,Fd]at *
   ·exact this
  have := h.same e;cases a1 <;> cases b1 <;> simp at *
  ·exact this
theorem LI:∀(a:List (Str × Tree)),(a.map (·.1)).Nodup->(a.map (·.1)).map (G6 a)=a.map (·.2)
  | [],_=>rfl
  | x :: a, h => by
    rw[List.map_cons,List.nodup_cons]at h;have ih:=LI a h.2;rw[List.map_cons,List.map_cons,List.map_cons,<-ih];have e1:G6 (x::a) x.1=x.2:=by simp[G6,Td]
    rw[e1]
    congr 1
    refine List.map_congr_left λk hk=>?_;have hne:¬x.1=k:=λe=>h.1 (e▸hk);simp[G6,Td,hne]
def RigO(o:Option Tree):Prop:=∀x,o=some x->Sc x=true
theorem RigO.nod{o:Option Tree}(h:RigO o):NodO o:=λx hx=>Rn (h x hx)
def SdR(s:Sd):Prop:=s=noS\/(s.has=true/\Sc s.val=true)
def CfR(c:Cf):Prop:=SdR c.b/\SdR c.l/\SdR c.r/\(c.cls=5->c.b.val.kind=5/\c.l.val.kind=5/\c.r.val.kind=5)/\1<=c.cls/\c.cls<=6
theorem UJ{x y:List Tree}(h:∀z∈x,z∈y):Fd x<=Fd y:=by
  have key:∀{z:Tree}{y:List Tree},z∈y->Ed z<=Fd y:=fun {z y} hz=>by
    induction y with
    | nil=>cases hz
    | cons a y ih =>
      rw[Fd];rcases oQ.1 hz with rfl|hz
      ·omega
      have:=ih hz;omega
  induction x with
  | nil=>simp[Fd]
  | cons a x ih =>
    rw[Fd];have h1:=key (h a Da);have h2:=ih λz hz=>h z (by simp[hz]);omega
theorem rig_arr{x:Tree}(h:Sc x=true){p:List Tree}(hp:∀z∈p,z∈x.items)(hs:Pb p<=Pb x.items):Sc (.node 5 [] [] p)=true:=by
  have hd:=UJ hp;have h0:=h;obtain⟨k,t,ks,xs⟩:=x;simp only[Tree.items]at hp hs hd;unfold Sc Sr at h ⊢;simp only[Bool.and_eq_true,decide_eq_true_eq]at h ⊢;rw[Rb,Ed]at h ⊢;refine⟨⟨by omega,by omega⟩,?_⟩;rw[Zd,M0 λz hz=>(Se h.2).2 z (hp z hz)];rfl
theorem EX(base v:List Tree)(g:Nat)(hg:g<=base.length):Pb ((Ue base v).put g)<=Pb v:=by
  by_cases h:g=base.length
  ·have := Rm base v g hg
   rw[if_pos h]at this;omega
  have := D5 base v g sX;omega
theorem Wh:∀xs:List Tree,Zg xs=xs.flatMap Vg
  | []=>rfl
  | x::xs=>by rw[Zg,Wh xs,List.flatMap_cons]
def MV(n m:Nat):List Str:=(List.range m).map λi=>Oi (n+i)
theorem XZ(n a b:Nat):MV n (a+b)=MV n a++MV (n+a) b:=by
  unfold MV;rw[List.range_add,jQ,List.map_map]
  congr 1
  exact List.map_congr_left λi _=>by simp[Nat.add_assoc]
section
variable (L:List Cf)(pick:List Int)
def UA(x:Tree):List Tree:=(Zs L 5 [] (Ji x) (Ve L pick x)).2
def Cx(n:Nat)(c:List Cf):Prop:=∀i x,c[i]? = some x->L[n+i]? = some x
structure Fo (n:Nat) (a:Mo) (S D:Nat):Prop where
  holes:∀v,a.1=some v->(Vg v).Perm (MV n a.2.length)
  val:∀v,a.1=some v->(Ve L pick v).has=true->Zd rnodeB (Ve L pick v).val=true/\Rb (Ve L pick v).val<=S/\Ed (Ve L pick v).val<=D
  five:∀v,a.1=some v->0<=Ji v->(L.getD (Ji v).toNat noC).cls≠5
  none:a.1=none->a.2=[]
structure Fg (n:Nat) (xs:List Tree) (c:List Cf) (S D:Nat):Prop where
  holes:(Zg xs).Perm (MV n c.length)
  val:∀y∈xs.flatMap (UA L pick),Zd rnodeB y=true/\Ed y<=D
  size:Pb (xs.flatMap (UA L pick))<=S
end
section
variable {L:List Cf}{pick:List Int}
theorem Cx.left{n:Nat}{c d:List Cf}(h:Cx L n (c++d)):Cx L n c:=λi x hx=>h i x (by rw[List.getElem?_append_left (List.getElem?_eq_some_iff.1 hx).1];exact hx)
theorem Cx.right{n:Nat}{c d:List Cf}(h:Cx L n (c++d)):Cx L (n+c.length) d:=λi x hx=>by
  have:=h (c.length+i) x (by rw[List.getElem?_append_right sX,Nat.add_sub_cancel_left];exact hx);rw[Nat.add_assoc];exact this
theorem OY{x:Tree}(h:0<=Ji x->(L.getD (Ji x).toNat noC).cls≠5):UA L pick x=if (Ve L pick x).has=true then [(Ve L pick x).val] else []:=by
  unfold UA Zs;split
  ·rw[if_neg Oa,if_neg λhh=>h hh.1 hh.2]
  rfl
theorem Fg.append{n:Nat}{xs ys:List Tree}{c d:List Cf}{S S' D:Nat}(h:Fg L pick n xs c S D)(k:Fg L pick (n+c.length) ys d S' D):Fg L pick n (xs++ys) (c++d) (S+S') D:=by
  refine⟨?_,λy hy=>?_,?_⟩
  ·rw[Wh,List.flatMap_append,<-Wh,<-Wh,dQ,XZ];exact h.holes.append k.holes
  ·rw[List.flatMap_append]at hy
   rcases mQ.1 hy with hy|hy
   ·exact h.val y hy
   exact k.val y hy
  rw[List.flatMap_append,Be];have:=h.size;have:=k.size;omega
theorem Fg.mono{n:Nat}{xs:List Tree}{c:List Cf}{S S' D D':Nat}(h:Fg L pick n xs c S D)(hs:S<=S')(hd:D<=D'):Fg L pick n xs c S' D' :=
  ⟨h.holes,λy hy=>⟨(h.val y hy).1,fQ (h.val y hy).2 hd⟩,fQ h.size hs⟩
theorem Fg.nil{n D:Nat}:Fg L pick n [] [] 0 D:=⟨.refl _,(λy hy=>by cases hy),gQ _⟩
theorem Fo.row{n:Nat}{a:Mo}{S D:Nat}(h:Fo L pick n a S D):Fg L pick n a.1.toList a.2 S D:=by
  obtain⟨o,c⟩:=a;cases o with
  | none =>
    have hc:c=[]:=h.none rfl;subst hc;exact Fg.nil.mono (Nat.zero_le _) (gQ _)
  | some v =>
    have hk:=OY (pick:=pick) (h.five v rfl);have e:[v].flatMap (UA L pick)=UA L pick v:=by simp
    refine⟨?_,λy hy=>?_,?_⟩
    ·show (Zg [v]).Perm _
     rw[Zg,Zg,qQ];exact h.holes v rfl
    ·have hy' : y ∈ UA L pick v := by rw[<- e];exact hy
     rw[hk]at hy';split at hy'
     ·rename_i hh
      rw[pQ.1 hy'];have:=h.val v rfl hh;exact⟨this.1,this.2.2⟩
     cases hy'
    show Pb ([v].flatMap (UA L pick)) <= S;rw[e,hk];split
    ·rename_i hh
     have:=(h.val v rfl hh).2.1;simp only[Pb];omega
    simp[Pb]
end
section
variable {L:List Cf}{pick:List Int}
theorem Fg.perm{n:Nat}{xs ys:List Tree}{c:List Cf}{S D:Nat}(h:Fg L pick n xs c S D)(hp:ys.Perm xs):Fg L pick n ys c S D:=by
  have h1:(ys.flatMap (UA L pick)).Perm (xs.flatMap (UA L pick)):=hp.flatMap_right _;refine⟨?_,λy hy=>h.val y (h1.mem_iff.1 hy),?_⟩
  ·rw[Wh]
   have:=h.holes;rw[Wh]at this;exact (hp.flatMap_right _).trans this
  rw[Nw h1];exact h.size
end
theorem Fo.mono{L:List Cf}{pick:List Int}{n:Nat}{a:Mo}{S S' D D':Nat}(h:Fo L pick n a S D)(hs:S<=S')(hd:D<=D'):Fo L pick n a S' D' :=
  ⟨h.holes,λv hv hh=>by obtain⟨h1,h2,h3⟩:=h.val v hv hh;exact⟨h1,by omega,by omega⟩,h.five,h.none⟩
end Go.Scarf
