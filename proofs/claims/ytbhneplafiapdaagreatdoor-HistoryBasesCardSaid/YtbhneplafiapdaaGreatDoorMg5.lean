/- A part of the proof. -/
import Derived.Test.YtbhneplafiapdaaGreatDoorMg1
set_option linter.all false
set_option maxHeartbeats 8000000
set_option maxRecDepth 10000
namespace Go.Scarf
open Go.RowKit
def QK(i:Nat):Bool:=decide ((Md (B4 i)).2=0)&&(decide ((Md (B4 i)).1=FB i)&&(decide (E3 (FB i)=((i:Int),true))&&decide ((B4 i).length<=20)))
theorem TI:(List.range 1000).all QK=true:=by kernel_rfl
theorem QM{i:Nat}(h:i<1000):(Md (B4 i)).2=0/\(Md (B4 i)).1=FB i/\E3 (FB i)=((i:Int),true)/\(B4 i).length<=20:=by
  have:=List.all_eq_true.1 TI i (List.mem_range.2 h);simpa[QK]using this
section
variable {f:Str->Nat->Mo}{n:Nat}{ks:List Str}
theorem Io:∀j,j<=ks.length->((Hk f n ks j).1.map (·.1)).Sublist (ks.take j)
  | 0,_=>by simp[Hk]
  | j + 1, hj => by
    have e:ks.getD j []=ks[j]:=by simp[List.getD,show j<ks.length by omega]
    rw[Hk,jQ,iQ Ca,e];refine (Io j Ca).append ?_;cases (f ks[j] (n+(Hk f n ks j).2.length)).1 with
    | none=>exact List.nil_sublist _
    | some x=>exact List.Sublist.refl _
end
theorem V1{b l r:List Str}:∀(F:Nat)(rest o:List Str),Yr b l r F rest=some o->∀s∈o,s∈rest
  | 0,_,o,h=>by rw[Yr]at h;obtain rfl:=lQ h;simp
  | F + 1, rest, o, h => by
    rw[Yr]at h;split at h
    ·rename_i s hs
     obtain⟨o',h1,rfl⟩:=Option.map_eq_some_iff.1 h;intro q hq;rcases oQ.1 hq with rfl|hq
     ·exact List.mem_of_find?_eq_some hs
     exact List.mem_of_mem_erase (V1 F _ _ h1 q hq)
    cases h
theorem LB{b l r names o:List Str}(h:Bw b l r names=some o):∀s∈o,s∈names:=by
  unfold Bw at h;split at h
  ·intro s hs
   have:=V1 _ _ _ h s hs;unfold Rm at this;exact List.mem_mergeSort.1 this
  cases h
theorem EO{rl:List Rl}{F:Nat}{p:List Str}{n:Nat}{b l r:Option Tree}(h:Hi l r=true):Dm rl (F+1) p n b l r=(l,[]):=by rw[Dm,if_pos h]
theorem HQ{rl:List Rl}{F:Nat}{p:List Str}{n:Nat}{b l r:Option Tree}(h:¬Hi l r=true)(h2:Hi b l=true):Dm rl (F+1) p n b l r=(r,[]):=by rw[Dm,if_neg h,if_pos h2]
theorem LQ{rl:List Rl}{F:Nat}{p:List Str}{n:Nat}{b l r:Option Tree}(h:¬Hi l r=true)(h2:¬Hi b l=true)(h3:Hi b r=true):Dm rl (F+1) p n b l r=(l,[]):=by rw[Dm,if_neg h,if_neg h2,if_pos h3]
theorem Rv{v:Tree}{c:List Cf}(h:Qh v=true):W_ (some v,c)=(v,c,0):=by unfold W_;exact if_pos h
theorem Vx{rl:List Rl}{b l r:Tree}(h:¬OD rl b l r):Oj rl b l r=(Ge,[],1):=if_neg h
theorem Aj{rl:List Rl}{b l r:Tree}(h:OD rl b l r):Oj rl b l r=W_ (Dm rl (39+1) [] 0 (some b) (some l) (some r)):=if_pos h
theorem VO{rl:List Rl}{b l r:Tree}(h:OD rl b l r)(hs:Je l r=true):Oj rl b l r=(l,[],0):=by
  rw[Aj h,EO (l:=some l) (r:=some r) hs,Rv (Ih h.2.1)]
theorem CP{rl:List Rl}{b l r:Tree}(h:OD rl b l r)(hs:¬Je l r=true)(hb:Je b l=true):Oj rl b l r=(r,[],0):=by
  rw[Aj h,HQ (b:=some b) (l:=some l) (r:=some r) hs hb,Rv (Ih h.2.2.1)]
theorem RP{rl:List Rl}{b l r:Tree}(h:OD rl b l r)(hs:¬Je l r=true)(hb:¬Je b l=true)(hr:Je b r=true):Oj rl b l r=(l,[],0):=by
  rw[Aj h,LQ (b:=some b) (l:=some l) (r:=some r) hs hb hr,Rv (Ih h.2.1)]
theorem SQ{x y:Tree}(hx:Kc x=true)(hy:Kc y=true):Je x y=true↔sortT x=sortT y:=JD x (Qy hx) y (Qy hy)
theorem F4{x y:Tree}(hx:Kc x=true)(hy:Kc y=true):Cu x y=Je x y:=by
  unfold Cu;rw[Ih hx,Ih hy];rfl
abbrev Kf:=List Str × Int × Option Tree × Option Tree × Option Tree
def DN(s:Sd):Option Tree:=if s.has=true then some (sortT s.val) else none
def K1(c:Cf):Kf:=(c.path,c.cls,DN c.b,DN c.l,DN c.r)
def K2(c:Cf):Kf:=(c.path,c.cls,DN c.b,DN c.r,DN c.l)
structure Tn (a b:Mo):Prop where
  perm:(a.2.map K1).Perm (b.2.map K2)
  size:Ye a.1=Ye b.1
  depth:Vj a.1=Vj b.1
  same:a.2=[]->a.1.map sortT=b.1.map sortT
theorem Tn.nil{a b:Mo}(h:Tn a b):a.2=[]↔b.2=[]:=by
  have:=h.perm.length_eq;rw[rQ,rQ]at this;constructor
  ·intro e;rw[e]at this;exact List.eq_nil_of_length_eq_zero this.symm
  intro e;rw[e]at this;exact List.eq_nil_of_length_eq_zero this
theorem Tn.some_{a b:Mo}(h:Tn a b):a.1.isSome=b.1.isSome:=by
  have:=h.size;obtain⟨a1,a2⟩:=a;obtain⟨b1,b2⟩:=b;cases a1 with
  | none => cases b1 with
    | none=>rfl
    | some y=>have:=Ok y;simp[Ye]at *;omega
  | some x => cases b1 with
    | none=>have:=Ok x;simp[Ye]at *;omega
    | some y=>rfl
section
variable {f g:Str->Nat->Mo}{n m:Nat}{ks ks':List Str}
end
theorem Ny{b l r:List Str}:∀(F:Nat)(rest o:List Str),rest.length=F->Yr b l r F rest=some o->o.Perm rest
  | 0, rest, o, hl, h => by
    rw[Yr]at h;obtain rfl:=lQ h;rw[List.eq_nil_of_length_eq_zero hl]
  | F + 1, rest, o, hl, h => by
    rw[Yr]at h;split at h
    ·rename_i s hs
     obtain⟨o',h1,rfl⟩:=Option.map_eq_some_iff.1 h;have hm:=List.mem_of_find?_eq_some hs;have:=Ny F _ _ (by rw[List.length_erase_of_mem hm,hl];rfl) h1;exact (this.cons s).trans (List.perm_cons_erase hm).symm
    cases h
theorem K5{b l r names o:List Str}(h:Bw b l r names=some o):o.Perm names:=by
  unfold Bw at h;split at h
  ·exact (Ny _ _ _ (Vq names) h).trans (Qo names)
  cases h
structure Ln (x y:List Tree) (c d:List Cf):Prop where
  perm:(c.map K1).Perm (d.map K2)
  size:Cb x=Cb y
  depth:Ic x=Ic y
  same:c=[]->x.map sortT=y.map sortT
theorem Ln.append{x y x' y':List Tree}{c d c' d':List Cf}(h:Ln x y c d)(k:Ln x' y' c' d'):Ln (x++x') (y++y') (c++c') (d++d') :=
  ⟨by rw[jQ,jQ];exact h.perm.append k.perm,by rw[Tc,Tc,h.size,k.size],by rw[Ng,Ng,h.depth,k.depth],
    λe=>by
      obtain⟨e1,e2⟩:=List.append_eq_nil_iff.1 e;rw[jQ,jQ,h.same e1,k.same e2]⟩
theorem Ln.refl(x:List Tree):Ln x x [] []:=⟨.refl _,rfl,rfl,λ_=>rfl⟩
theorem Ln.of{a b:Mo}(h:Tn a b):Ln a.1.toList b.1.toList a.2 b.2:=by
  obtain⟨a1,a2⟩:=a;obtain⟨b1,b2⟩:=b;have hs:=h.some_;refine⟨h.perm,?_,?_,λe=>?_⟩
  ·have := h.size
   cases a1 <;> cases b1 <;> simp[Ye,Cb]at *
   ·exact this
  ·have := h.depth
   cases a1 <;> cases b1 <;> simp[Vj,Ic]at *
   ·exact this
  have := h.same e;cases a1 <;> cases b1 <;> simp at *
  ·exact this
theorem K4:∀(a:List (Str × Tree)),(a.map (·.1)).Nodup->(a.map (·.1)).map (Sr a)=a.map (·.2)
  | [],_=>rfl
  | x :: a, h => by
    rw[List.map_cons,List.nodup_cons]at h;have ih:=K4 a h.2;rw[List.map_cons,List.map_cons,List.map_cons,<-ih];have e1:Sr (x::a) x.1=x.2:=by simp[Sr,Oc]
    rw[e1]
    congr 1
    refine List.map_congr_left λk hk=>?_;have hne:¬x.1=k:=λe=>h.1 (e▸hk);simp[Sr,Oc,hne]
theorem F1{x y:List Tree}(h:∀z∈x,z∈y):Ic x<=Ic y:=by
  have key:∀{z:Tree}{y:List Tree},z∈y->Ce z<=Ic y:=fun {z y} hz=>by
    induction y with
    | nil=>cases hz
    | cons a y ih =>
      rw[Ic];rcases oQ.1 hz with rfl|hz
      ·omega
      have:=ih hz;omega
  induction x with
  | nil=>simp[Ic]
  | cons a x ih =>
    rw[Ic];have h1:=key (h a Pa);have h2:=ih λz hz=>h z (by simp[hz]);omega
theorem TG{x:Tree}(h:Kc x=true){p:List Tree}(hp:∀z∈p,z∈x.items)(hs:Cb p<=Cb x.items):Kc (.node 5 [] [] p)=true:=by
  have hd:=F1 hp;have h0:=h;obtain⟨k,t,ks,xs⟩:=x;simp only[Tree.items]at hp hs hd;unfold Kc Hl at h ⊢;simp only[Bool.and_eq_true,decide_eq_true_eq]at h ⊢;rw[Jb,Ce]at h ⊢;refine⟨⟨by omega,by omega⟩,?_⟩;rw[Wd,X0 λz hz=>(Lh h.2).2 z (hp z hz)];rfl
theorem If:∀xs:List Tree,Ij xs=xs.flatMap S7
  | []=>rfl
  | x::xs=>by rw[Ij,If xs,List.flatMap_cons]
def GB(n m:Nat):List Str:=(List.range m).map λi=>B4 (n+i)
theorem PF(n a b:Nat):GB n (a+b)=GB n a++GB (n+a) b:=by
  unfold GB;rw[List.range_add,jQ,List.map_map]
  congr 1
  exact List.map_congr_left λi _=>by simp[Nat.add_assoc]
section
variable (L:List Cf)(pick:List Int)
def Yw(x:Tree):List Tree:=(LL L 5 [] (Qr x) (Wr L pick x)).2
def Cx(n:Nat)(c:List Cf):Prop:=∀i x,c[i]? = some x->L[n+i]? = some x
structure Fo (n:Nat) (a:Mo) (S D:Nat):Prop where
  holes:∀v,a.1=some v->(S7 v).Perm (GB n a.2.length)
  val:∀v,a.1=some v->(Wr L pick v).has=true->Wd rnodeB (Wr L pick v).val=true/\Jb (Wr L pick v).val<=S/\Ce (Wr L pick v).val<=D
  five:∀v,a.1=some v->0<=Qr v->(L.getD (Qr v).toNat RQ).cls≠5
  none:a.1=none->a.2=[]
structure Fg (n:Nat) (xs:List Tree) (c:List Cf) (S D:Nat):Prop where
  holes:(Ij xs).Perm (GB n c.length)
  val:∀y∈xs.flatMap (Yw L pick),Wd rnodeB y=true/\Ce y<=D
  size:Cb (xs.flatMap (Yw L pick))<=S
end
section
variable {L:List Cf}{pick:List Int}
theorem Cx.left{n:Nat}{c d:List Cf}(h:Cx L n (c++d)):Cx L n c:=λi x hx=>h i x (by rw[List.getElem?_append_left (List.getElem?_eq_some_iff.1 hx).1];exact hx)
theorem Cx.right{n:Nat}{c d:List Cf}(h:Cx L n (c++d)):Cx L (n+c.length) d:=λi x hx=>by
  have:=h (c.length+i) x (by rw[List.getElem?_append_right Ca,Nat.add_sub_cancel_left];exact hx);rw[Nat.add_assoc];exact this
theorem OF{x:Tree}(h:0<=Qr x->(L.getD (Qr x).toNat RQ).cls≠5):Yw L pick x=if (Wr L pick x).has=true then [(Wr L pick x).val] else []:=by
  unfold Yw LL;split
  ·rw[if_neg Ub,if_neg λhh=>h hh.1 hh.2]
  rfl
theorem Fg.append{n:Nat}{xs ys:List Tree}{c d:List Cf}{S S' D:Nat}(h:Fg L pick n xs c S D)(k:Fg L pick (n+c.length) ys d S' D):Fg L pick n (xs++ys) (c++d) (S+S') D:=by
  refine⟨?_,λy hy=>?_,?_⟩
  ·rw[If,List.flatMap_append,<-If,<-If,dQ,PF];exact h.holes.append k.holes
  ·rw[List.flatMap_append]at hy
   rcases mQ.1 hy with hy|hy
   ·exact h.val y hy
   exact k.val y hy
  rw[List.flatMap_append,Tc];have:=h.size;have:=k.size;omega
theorem Fg.mono{n:Nat}{xs:List Tree}{c:List Cf}{S S' D D':Nat}(h:Fg L pick n xs c S D)(hs:S<=S')(hd:D<=D'):Fg L pick n xs c S' D' :=
  ⟨h.holes,λy hy=>⟨(h.val y hy).1,fQ (h.val y hy).2 hd⟩,fQ h.size hs⟩
theorem Fg.nil{n D:Nat}:Fg L pick n [] [] 0 D:=⟨.refl _,(λy hy=>by cases hy),gQ _⟩
theorem Fo.row{n:Nat}{a:Mo}{S D:Nat}(h:Fo L pick n a S D):Fg L pick n a.1.toList a.2 S D:=by
  obtain⟨o,c⟩:=a;cases o with
  | none =>
    have hc:c=[]:=h.none rfl;subst hc;exact Fg.nil.mono (Nat.zero_le _) (gQ _)
  | some v =>
    have hk:=OF (pick:=pick) (h.five v rfl);have e:[v].flatMap (Yw L pick)=Yw L pick v:=by simp
    refine⟨?_,λy hy=>?_,?_⟩
    ·show (Ij [v]).Perm _
     rw[Ij,Ij,qQ];exact h.holes v rfl
    ·have hy' : y ∈ Yw L pick v := by rw[<- e];exact hy
     rw[hk]at hy';split at hy'
     ·rename_i hh
      rw[pQ.1 hy'];have:=h.val v rfl hh;exact⟨this.1,this.2.2⟩
     cases hy'
    show Cb ([v].flatMap (Yw L pick)) <= S;rw[e,hk];split
    ·rename_i hh
     have:=(h.val v rfl hh).2.1;simp only[Cb];omega
    simp[Cb]
end
section
variable {L:List Cf}{pick:List Int}
theorem Fg.perm{n:Nat}{xs ys:List Tree}{c:List Cf}{S D:Nat}(h:Fg L pick n xs c S D)(hp:ys.Perm xs):Fg L pick n ys c S D:=by
  have h1:(ys.flatMap (Yw L pick)).Perm (xs.flatMap (Yw L pick)):=hp.flatMap_right _;refine⟨?_,λy hy=>h.val y (h1.mem_iff.1 hy),?_⟩
  ·rw[If]
   have:=h.holes;rw[If]at this;exact (hp.flatMap_right _).trans this
  rw[Es h1];exact h.size
end
theorem Fo.mono{L:List Cf}{pick:List Int}{n:Nat}{a:Mo}{S S' D D':Nat}(h:Fo L pick n a S D)(hs:S<=S')(hd:D<=D'):Fo L pick n a S' D' :=
  ⟨h.holes,λv hv hh=>by obtain⟨h1,h2,h3⟩:=h.val v hv hh;exact⟨h1,by omega,by omega⟩,h.five,h.none⟩
end Go.Scarf
