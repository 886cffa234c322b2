/- A part of the proof. -/
import Derived.Test.YtidlkjpohhbbcaaGreatDoorEn
set_option linter.all false
set_option maxHeartbeats 8000000
set_option maxRecDepth 10000
set_option synthInstance.maxHeartbeats 0
set_option synthInstance.maxSize 9999
namespace Go.Scarf
open List renaming length->aL
open Go.RowKit Go.Proofs Go.Proofs.Tryz
variable {cs:List Value}{t:List Mm}{T b e i k sz:Nat}{x y:Operand}
abbrev zMm:List Value:=[I [],.bool false,J 0,I [],aQ,aQ]
def FF{a x r:List Value}{o:Nat}(ha:aL a=o)(hx:aL x=aL cs):Xx (a++(x++r)) o cs=a++(cs++r):=by
  unfold Xx;rw[List.take_left' ha]
  congr 2
  rw[<-sQ];exact List.drop_left' qM
section
variable {P:Program}{R:Exit->Act->World->Prop}{n:Nat}{kt:Kt}{s:Nat->Value}{w w0:World}{ops rest:List Oper}{Ds:List Nat}{bs_:List (Nat × Obj)}
variable {d:Nat}{ty:TypeId}{pos:String}{aft:Array Edge}{g:Option (Nat × Bool)}{ρ:Operand->Value}{dst:Option Nat}
def Iw{t:Nat}{len c:Nat}{k:IntKind}(m:Nat)(ht:Ug P t e sz)(hx:ρ x=W b len c)(hy:ρ y=.int k (m:Int))(hm:m<=len)(hc:m<c) :
    (execOp ρ ⟨dst,.slice t x (some y) none none,ty,pos,aft,g⟩).run P w=.ok (.value (.slice (some ⟨b,m*sz,none⟩) (len-m) (c-m))) w:=by
  have h:=Gq (P:=P) (w:=w) (dst:=dst) (ty:=ty) (pos:=pos) (aft:=aft) (g:=g) m ht hx hy hm;rw[tQ Aa,Option.map_some,Te,Nat.zero_add]at h;exact h
def VO{t:Nat}{A:Option Addr}{len c:Nat}{k:IntKind}(m:Nat)(ht:Ug P t e sz)(hx:ρ x=.slice A len c)(hy:ρ y=.int k (m:Int))(hm:m<=c) :
    (execOp ρ ⟨dst,.slice t x none (some y) none,ty,pos,aft,g⟩).run P w=.ok (.value (.slice A m c)) w:=by
  have he:=FE ht.1;have ht':P.underlying t=some (.slice<|P.elem t):=by rw[he];exact ht.1
  have h:=run_slice_h (P:=P) w t A len c ht' k m Aa Aa;have hs:(sizeOf<|P.elem t).run P w=.ok sz w:=by rw[he];exact ht.2 w
  rw[hs]at h;have e1:sliced A 0 (m:Int).toNat c sz=.slice A m c:=by
    unfold sliced;simp only[Int.toNat_natCast,Nat.zero_mul,Nat.sub_zero];split
    ·rfl
    cases A <;> simp[Ln]
  simp only[execOp,Option.map_none,Option.map_some,hx,hy,run_sliceAt_slice w t _ _ _ _ ht',Sem.run_bind,h,Result.andThen,e1];rfl
def o_appG{t m bytes len c c2:Nat}{a0 a:Addr}{z:Value}{zl:List Value}(olds news:List Value)(hE:Elems P t e m bytes)(hz0:(P.info? e).map (·.zero)=some (some z))(hc:z.cells=zl.toArray)(hF:FR w0 Ds bs_ w)(hx:ev n s x=.slice (some a0) len c)(hy:ev n s y=.slice (some a) k c2)
    (hlo:aL olds=len*m) (holds:∀j u,olds[j]? = some u->w.cell? (a0.add j)=some u) (hl:aL news=k*m) (hnews:∀j u,news[j]? = some u->w.cell? (a.add j)=some u) (hg:c<len+k) (hb:(len+k)*bytes<=140737488355328) (h63:len+k<=1000000000)
    (h:∀b c' junk w',b=w.heap.size->len+k<=c'->c'<=maxLen->aL junk=(c'-(len+k))*m->FR w0 Ds ((b,.cells (olds++(news++junk)).toArray e)::bs_) w'->Same [] w w'->Og P R n ops kt rest (Ic s d (W b (len+k) c')) w')
    (hw:Ka ops n s ⟨some d,.call ⟨.builtin .append,#[x,y],#[t,t]⟩,ty,pos,aft,g⟩=true:=by rfl):Og P R n ops kt (⟨some d,.call ⟨.builtin .append,#[x,y],#[t,t]⟩,ty,pos,aft,g⟩::rest) s w:=by
  obtain⟨inf,z',hi,hz,hs,hby,hzs⟩:=hE.info;rw[hi]at hz0;have ez:inf.zero=some z:=aS hz0
  have em:m=aL zl:=by
    rw[hz]at ez;rw[<-hzs,lQ ez,hc];simp
  have hr:=run_append_grow (P:=P) w t ty e inf z hE.ht hi ez a0 len c olds (by rw[hs];exact hlo) holds a k c2 news (by rw[hs];exact hl) hnews hg Aa (by rw[hby];exact growslice_fits Aa hb);rw[hc,L0]at hr;have hge:=grownCap_ge w (len+k) c e;have hcm:grownCap w (len+k) c e<=maxLen:=grownCap_le_maxLen w (len+k) c e qN;have hsm:Same [] w (w.drew.alloc<|.cells (olds++(news++Zi zl (grownCap w (len+k) c e-(len+k)))).toArray e):=(Same.drew w).trans (Same.alloc w.drew _);have hFn:FR w0 Ds ((w.heap.size,.cells (olds++(news++Zi zl (grownCap w (len+k) c e-(len+k)))).toArray e)::bs_) (w.drew.alloc<|.cells (olds++(news++Zi zl (grownCap w (len+k) c e-(len+k)))).toArray e):=hF.drew.alloc _;refine Ba (v:=.slice (some ⟨w.heap.size,0,none⟩) (len+k)<|grownCap w (len+k) c e) ?_ (h _ _ _ _ O hge hcm (by rw[Pk,em]) hFn hsm) hw;have e1:olds.toArray++news.toArray++(Zi zl<|grownCap w (len+k) c e-(len+k)).toArray=(olds++(news++Zi zl (grownCap w (len+k) c e-(len+k)))).toArray:=by simp[sQ]
  rw[e1]at hr;exact Fq hx hy hr
end
def rdC{w0 w:World}{g:Nat}(hE:Same [] w0 w)(hg:w0.heap[g]? = some (.cells cs.toArray T)):∀j u,cs[j]? = some u->w.cell? ((⟨g,0,none⟩:Addr).add j)=some u:=λj u hu=>by
  have h:w.heap[g]? = some (.cells cs.toArray T):=(hE.block g (Pa hg) Da).trans hg;rw[Te,Nat.zero_add,Db h,List.getElem?_toArray];exact hu
def take_get{l:List Value}{j:Nat}{u:Value}(h:(l.take k)[j]? = some u):l[j]? = some u:=by
  rw[List.getElem?_take]at h;split at h
  ·exact h
  cases h
def insert_c(g h n i:Nat)(cs new:List Value)(w0:World)(hg:w0.heap[g]? = some (.cells cs.toArray 44))(hh:w0.heap[h]? = some (.cells new.toArray 44))(hcs:aL cs=n*6)(hnew:aL new=1*6)(hi:i<=n)(hn:n<=1000000)(h1c:∀v∈cs,one v=true)(h1n:∀v∈new,one v=true):Calls prog 59 #[W g n n,J (i:Int),W h 1 1] w0 (Za λv w'=>∃(g' c':Nat)(vals:List Value),v=.slice (some ⟨g',0,none⟩) (n+1) c'/\w'.heap[g']? = some (.cells vals.toArray 44)/\n+1<=c'/\c'<=maxLen/\aL vals=c'*6/\vals.take ((n+1)*6)=cs.take (i*6)++(new++cs.drop (i*6))/\w0.heap.size<=g'/\Same [] w0 w'):=by
 refine Ea func59 ntmps59 ?_;intro hF;refine rn 9 (Ba (v:=.slice ((if n=i then some ⟨g,0,none⟩ else (some ⟨g,0,none⟩:Option Addr).map (·.add (i*6)))) ((n-i))<|(n-i)) (Gq i Kf O O Aa) ?_);refine rn 16<|Zo (by rfl) ?_;refine rn 18 ⟨λhc1=>?_,λhc1=>?_⟩;refine rn 4<|o_appG (z:=.agg zMm.toArray) (zl:=zMm) cs new U1 Ua O hF O O hcs (rdC hF.same hg) (by rw[hnew]) (rdC hF.same hh) Aa Aa Aa ?_;intro b1 c' junk w hb1 hle hcm hjl hF hE;clear hE;refine rn 4 ?_;obtain rfl:i=n:=Aa
 exact⟨b1,c',_,O,hF.heap (i:=0) O,hle,hcm,by simp[hcs,hnew,hjl];have:=Nat.sub_mul c' (i+1) 6;omega,by rw[List.take_of_length_le (l:=cs) Aa,List.drop_eq_nil_of_le Aa,qQ,<-sQ];exact List.take_left' (by simp[hcs,hnew];omega),hF.ge (i:=0) O,hF.same⟩;refine rn 7<|Zb (Wd<|((n+1:Nat):Int)) ?_;refine rn 1<|Ba (v:=J<|(n:Nat)) (XE underlying22 O) ?_;refine rn 4 ⟨λhc2=>?_,λhc2=>?_⟩;refine rn 4<|Ba (v:=W g i n) (VO i Kf O O Aa) ?_;refine rn 2<|Zb (Wd<|((n+1:Nat):Int)) ?_;refine rn 1<|Zb (AB<|((n-i+1:Nat):Int)) ?_;refine o_appZ (z:=.agg zMm.toArray) (zl:=zMm) (k:=n-i+1) (cs.take<|i*6) U1 Ua O dX hF O O (by rw[jZ,hcs];omega) (λ_=>⟨_,O,λj u hu=>rdC hF.same hg j u<|take_get hu⟩) Aa Aa Aa Aa Aa ?_;intro b1 c' junk w hb1 hle hcm hjl hF hE;clear hE;have eln:i+(n-i+1)=n+1:=Aa
 rw[eln]at hle hjl ⊢;have hF:FR w0 [] [(b1,.cells (cs.take (i*6)++(zMm++(Zi zMm (n-i)++junk))).toArray 44)] w:=by simpa[Zi,sQ]using hF
 refine rn 7<|Ba (v:=.slice (some ⟨b1,i*6,none⟩) ((n+1-i))<|(c'-i)) (Iw i Kf O O Aa Aa) ?_;refine rn 1 ?_;refine DY 0 new 1 U1 hF O O O (Nat.min_eq_left Aa) hnew (λ_=>⟨_,O,rdC hF.same hh⟩) (by simp[hcs,hnew];omega) (Ig h1n) ?_;intro w hF hE;clear hE;rw[FF (by rw[jZ,hcs];omega) (by rw[hnew];rfl)]at hF;have hF:FR w0 [] [(b1,.cells (cs.take (i*6)++(new++(Zi zMm (n-i)++junk))).toArray 44)] w:=hF;have e12:(cs.take (i*6)++(new++(Zi zMm (n-i)++junk)))=(cs.take (i*6)++new)++(Zi zMm (n-i)++junk):=by simp[sQ]
 rw[e12]at hF;refine rn 3<|Gb (.of []) (bQ [0,1,2,3,4,5,6,7]<|.act 8 .nil) hF ?_;rintro w hF -;refine⟨λwq=>FR w0 [] [] wq,hF.mid 1 0,?_⟩;refine rn 3<|CB O (Wd<|((i+1:Nat):Int))<|Ga O (v:=.slice (some ⟨b1,(i+1)*6,none⟩) ((n+1-(i+1)))<|(c'-(i+1))) (λw hC=>Iw (i+1) Kf O O Aa Aa) ?_;refine rn 2<|Ga O (v:=.slice (some ⟨g,i*6,none⟩) ((n-i))<|(n-i)) (λw hC=>Iw i Kf O O Aa Aa) ?_;refine f_copy O 0 (cs.drop<|i*6) (n-i) U1 hF O O O (Nat.min_eq_left Aa) (by rw[zQ,hcs];omega) (λ_=>⟨_,O,λj u hu=>by rw[Te,<-Nat.zero_add (i*6+j),<-Te];exact rdC hF.same hg _ u (by rw[<-List.getElem?_drop];exact hu)⟩) (by simp[hcs,hnew,Pk];omega) (λv hv=>Ig h1c v<|List.mem_of_mem_drop hv) ?_;intro w hF hE;clear hE;rw[FF (by rw[dQ,jZ,hcs,hnew];omega) (by rw[Pk,zQ,hcs];simp;omega)]at hF;have hF:FR w0 [] [(b1,.cells ((cs.take (i*6)++new)++(cs.drop (i*6)++junk)).toArray 44)] w:=hF;refine⟨hF.clear,?_⟩;refine rn 9 ?_;exact⟨b1,c',_,O,hF.heap (i:=0) O,hle,hcm,by simp[hcs,hnew,hjl];have:=Nat.sub_mul c' (n+1) 6;omega,by rw[<-sQ,List.take_left' (by simp[hcs,hnew];omega),sQ],hF.ge (i:=0) O,hF.same⟩;exact absurd (show (n:Int)<((n+1:Nat):Int) by omega) hc2
def wrapU{x:Int}(h0:0<=x)(h1:x<=9223372036854775807):IntKind.u64.wrap x=x:=by rw[IntKind.wrap_u64];omega
def shr1(n:Nat):((n:Int)).fdiv (2 ^ 1)=((n/2:Nat):Int):=by
  rw[Int.fdiv_eq_ediv_of_nonneg _ Ja];omega
def Nx(a b:Str):Lib.compareBytes a b<0↔a<b:=by
  have h:=Q_ a b;rw[Dr]at h;have h3:=Ak a b;rw[decide_eq_decide]at h;rw[h];omega
def WU{a b:Str}:Lib.compareBytes a b=0↔a=b:=by
  constructor
  ·intro h
   have h1:¬a<b:=λhl=>by have:=(Nx a b).2 hl;omega
   have h2:¬b<a:=λhl=>by have:=(Nx b a).2 hl;rw[F6]at this;omega
   exact ZP h1 h2
  rintro rfl;have h1:¬Lib.compareBytes a a<0:=λh=>PE<|(Nx a a).1 h;have:=F6 a a;omega
def GY(h:Asc t){p:Str}(hk:k<aL t)(hi:i<aL t)(hki:k<=i)(hp:t[i].pr<p):t[k].pr<p:=by
  rcases Nat.lt_or_eq_of_le hki with h1|rfl
  ·exact H0 (List.pairwise_iff_getElem.1 h k i hk hi h1) hp
  exact hp
def asc_hi(h:Asc t){p:Str}(hk:k<aL t)(hi:i<aL t)(hki:i<=k)(hp:¬t[i].pr<p):¬t[k].pr<p:=λhl=>hp<|GY h hi hk hki hl
def low_is{p:Str}(hi:i<=aL t)(hlo:∀k (_:k<aL t),k<i->t[k].pr<p)(hhi:∀k (_:k<aL t),i<=k->¬t[k].pr<p):Hf t p=i:=by
  unfold Hf;rw[On (j:=i) (λz hz=>?_) λh=>?_,jZ,Nat.min_eq_left hi]
  ·obtain⟨k, hk, rfl⟩ := List.getElem_of_mem hz
   rw[jZ]at hk;rw[List.getElem_take,Dr,xQ];exact hlo k Aa Aa
  rw[Dr, decide_eq_false_iff_not];exact hhi i h<|gQ _
def has_is{p:Str}(h:Hf t p=i):O9 t p=match t[i]? with|some m=>decide (m.pr=p)|none=>false:=by
  unfold O9;rw[h];cases t[i]? <;> rfl
def pl1_c(a b:Str)(x:Sv)(w0:World):Calls prog 91 #[.agg (Lp a x).toArray,I b] w0 (Za λv w'=>v=J (Lib.compareBytes a b)/\Same [] w0 w'):=by
 refine Ea func91 ntmps91 ?_;intro hF;refine rn 3 ?_;rintro b1 w hb1 hF -;refine rn 8<|Ia (Lo a b _) ?_;rintro w hF -;refine rn 4 ?_;exact⟨O,hF.same⟩
def search_c(t:List Mm)(p:Str)(A:Option Addr)(c:Nat)(S:Nat->Prop)(w0:World)(hX:Rep S w0 (Jd t) [.slice A (aL t) c])(hs_:Asc t)(htl:aL t<=1000000):Calls prog 90 #[.slice A (aL t) c,I p,.func (.func 91) #[] #[]] w0 (Za λv w'=>v=.tuple #[J (Hf t p:Nat),.bool (O9 t p)]/\Same [] w0 w'):=by
 refine Ea func90 ntmps90 ?_;intro hF;refine rn 22<|Sa (λμ σ w=>∃(i:Nat),∃(j:Nat),μ=j-i/\(i<=j/\j<=aL t)/\(∀k (_:k<aL t),k<i->t[k].pr<p)/\(∀k (_:k<aL t),j<=k->¬t[k].pr<p)/\AllEq σ [(0,.slice A (aL t) c),(1,I p),(2,.func (.func 91) #[] #[]),(8,J<|(aL t:Nat)),(9,J<|(i:Int)),(10,J<|(j:Int))]/\FR w0 [] [] w) _ ⟨0,aL t,O,⟨dZ _,gQ _⟩,λk _ h=>by omega,λk h1 h2=>by omega,Va,hF⟩ ?_;rintro μ σ w ⟨i,j,rfl,hij,hlo,hhi,hzz,hF⟩;refine Wf hzz 9 ⟨λhc0=>?_,λhc0=>?_⟩;refine rn 4 ?_;obtain⟨h_,hh⟩:∃h,h=(i+j)/2:=⟨_,rfl⟩;have hhl:h_<aL t:=Aa
 refine rn 3<|Zb (Wd<|((i+j:Nat):Int))<|Ba (v:=.int .u64<|((i+j:Nat):Int)) (Qb dX xZ O<|wrapU Aa Aa) ?_;refine Ba (v:=.int .u64<|((h_:Nat):Int)) (x_shr 1 O O Ja (by rw[hh];exact shr1 _)) ?_;refine Ba (v:=J<|((h_:Nat):Int)) (Qb xZ dX O<|Ge Aa Aa)<|rn 8 ?_;obtain⟨ad0,q0,hA0,hk0,hx0,hp0⟩:=hX.mm_elem (i:=h_) hhl;refine Ba (v:=.pointer<|some<|ad0.add<|h_*6) (Ca (i:=((h_:Nat):Int)) Kf hA0)<|Ba (v:=.agg #[I<|t[h_].pr,.bool q0.h,J q0.v.k,I q0.v.t,.slice q0.v.A q0.v.n q0.v.c,.slice q0.v.B q0.v.m q0.v.e]) (Ma (l:=(Lp t[h_].pr q0)) isAgg44 sizeOf44 O O<|hF.cells0 hk0) ?_;refine rn 1<|Vg hF (pl1_c t[h_].pr p q0 _) (Fh O en_91 O O O) ?_;intro w hF;refine rn 4 ⟨λhc1=>?_,λhc1=>?_⟩;refine rn 2<|Zb (Wd<|((h_+1:Nat):Int)) ?_;refine rn 3<|Ha ⟨_,?_,h_+1,j,O,⟨Aa,hij.2⟩,λk h1 h2=>GY hs_ h1 hhl Aa<|(Nx _ _).1 hc1,hhi,Va,hF⟩;omega;refine rn 5<|Ha ⟨_,?_,i,h_,O,⟨Aa,Aa⟩,hlo,λk h1 h2=>asc_hi hs_ h1 hhl h2 λh=>hc1<|(Nx _ _).2 h,Va,hF⟩;omega;refine rn 3 ?_;obtain rfl:i=j:=Aa
 have hlw:=low_is hij.2 hlo hhi;have hhs:=has_is hlw;refine rn 7 ⟨λhg1=>?_,λhg1=>?_⟩;refine rn 3 ?_;obtain⟨ad2,q2,hA2,hk2,hx2,hp2⟩:=hX.mm_elem (i:=i) Aa;refine Ba (v:=.pointer<|some<|ad2.add<|i*6) (Ca (i:=(i:Int)) Kf hA2)<|Ba (v:=.agg #[I<|t[i].pr,.bool q2.h,J q2.v.k,I q2.v.t,.slice q2.v.A q2.v.n q2.v.c,.slice q2.v.B q2.v.m q2.v.e]) (Ma (l:=(Lp t[i].pr q2)) isAgg44 sizeOf44 O O<|hF.cells0 hk2) ?_;refine rn 1<|Vg hF (pl1_c t[i].pr p q2 _) (Fh O en_91 O O O) ?_;intro w hF;refine rn 7 ?_;rw[hlw,hhs];rw[List.getElem?_eq_getElem (by omega:i<aL t)];exact⟨yQ (λb=>Value.tuple #[J (i:Int),.bool b])<|decide_eq_decide.2 WU,hF.same⟩;refine rn 14 ?_;rw[hlw,hhs];rw[List.getElem?_eq_none Aa];exact⟨O,hF.same⟩
def QQ(t:List Mm)(p:Str)(A:Option Addr)(c:Nat)(S:Nat->Prop)(w0:World)(hX:Rep S w0 (Jd t) [.slice A (aL t) c])(hs_:Asc t)(htl:aL t<=1000000):Calls prog 57 #[.slice A (aL t) c,I p] w0 (Za λv w'=>v=.tuple #[J (Hf t p:Nat),.bool (O9 t p)]/\Same [] w0 w'):=by
 refine Ea func57 ntmps57 ?_;intro hF;refine rn 10<|Ia (search_c t p A c S _ (hF.rep hX) hs_ htl) ?_;rintro w hF -;refine rn 7 ?_;exact⟨O,hF.same⟩
theorem known_c(t:List Mm)(A:Option Addr)(c:Nat)(cf:Cf)(q:Cv)(S S2:Nat->Prop)(w0:World)(hX:Rep S w0 (Jd t) [.slice A (aL t) c])(hm:∀m∈t,MmOk m)(htl:aL t<=1000000)(hq:CvOf S2 w0 cf q)(hP:CfP cf)(hG:Gl w0):Calls prog 61 #[.slice A (aL t) c,.agg q.cells.toArray] w0 (Za λv w'=>v=.tuple #[J ((Vf t cf).1:Nat),.bool (Vf t cf).2]/\Same [] w0 w'):=by
 refine Ea func61 ntmps61 ?_;intro hF;refine rn 3 ?_;rintro b1 w hb1 hF -;refine rn 7<|Ia (JE cf q S2 _ ⟨hq.n,hq.k,hF.rep hq.p,hF.rep hq.x,hF.rep hq.y,hF.rep hq.z⟩ hP<|hG.ext hF.same) ?_;rintro w hF -;refine rn 14 ⟨λhg0=>?_,λhg0=>?_⟩;refine rn 14 ?_;have e:Vf t cf=(0,false):=by unfold Vf;rw[tQ qX]
 rw[e];exact⟨O,hF.same⟩;refine rn 1<|Ia (Gx t A c S _ (hF.rep hX) hm<|hG.ext hF.same) ?_;rintro w hF -;refine rn 5 ⟨λhc0=>?_,λhc0=>?_⟩;refine rn 7 ?_;have e:Vf t cf=(0,false):=by unfold Vf;rw[tQ qX]
 rw[e];exact⟨O,hF.same⟩;refine rn 3 ?_;have hP1:(Nj cf).2=true:=qX
 have hR1:Tf t=true:=qX
 refine rn 3<|Ia (QQ t (Nj cf).1 A c S _ (hF.rep hX) (Hw.1 hR1).1 htl) ?_;rintro w hF -;refine rn 7 ?_;have e:Vf t cf=(Hf t (Nj cf).1,O9 t (Nj cf).1):=by unfold Vf;rw[uQ (by rw[hP1,hR1];rfl)]
 rw[e];exact⟨O,hF.same⟩
def LX{c:Cf}(h:(Vf t c).2=true):(Vf t c).1<aL t:=by
  unfold Vf at h ⊢;split at h
  ·rename_i hc
   rw[uQ hc];simp only at h ⊢;unfold O9 at h;rcases Nat.lt_or_ge (Hf t (Nj c).1) (aL t) with h1|h1
   ·exact h1
   rw[List.getElem?_eq_none h1]at h;cases h
  cases h
theorem find_c(t:List Mm)(A:Option Addr)(c:Nat)(cf:Cf)(q:Cv)(S S2:Nat->Prop)(w0:World)(hX:Rep S w0 (Jd t) [.slice A (aL t) c])(hm:∀m∈t,MmOk m)(htl:aL t<=1000000)(hq:CvOf S2 w0 cf q)(hP:CfP cf)(hG:Gl w0):Calls prog 24 #[.slice A (aL t) c,.agg q.cells.toArray] w0 (Za λv w'=>∃y:Sv,v=.tuple #[.agg y.cells.toArray,.bool (Ei t cf).2]/\Rep (Btw w0 w') w' (Ad (Gj (Ei t cf).1)) y.cells/\Same [] w0 w'):=by
 refine Ea func24 ntmps24 ?_;intro hF;refine rn 3 ?_;rintro b1 w hb1 hF -;refine rn 1 ?_;rintro b2 w hb2 hF -;refine rn 7<|Ia (known_c t A c cf q S S2 _ (hF.rep hX) hm htl ⟨hq.n,hq.k,hF.rep hq.p,hF.rep hq.x,hF.rep hq.y,hF.rep hq.z⟩ hP<|hG.ext hF.same) ?_;rintro w hF -;refine rn 15 ⟨λhc0=>?_,λhc0=>?_⟩;have h0:(Vf t cf).2=false:=aS hc0
 refine rn 2<|Ba (w':=w) (v:=.agg #[.bool false,J 0,I [],aQ,aQ]) Ua ?_;refine rn 1 ?_;rintro w hF -;refine rn 4 ?_;have e:Ei t cf=(noS,false):=by unfold Ei;rw[tQ bR]
 rw[e];exact⟨⟨false,Z8⟩,O,Ul,hF.same⟩;have h0:(Vf t cf).2=true:=aS hc0
 have hkl:=LX h0;refine rn 6 ?_;obtain⟨ad0,q0,hA0,hk0,hx0,hp0⟩:=hX.mm_elem (i:=(Vf t cf).1) hkl;refine Ba (v:=.pointer<|some<|ad0.add<|(Vf t cf).1*6) (Ca (i:=((Vf t cf).1:Nat)) Kf hA0)<|Ba (v:=.pointer<|some<|(ad0.add<|(Vf t cf).1*6).add 1) (Oa (a:=ad0.add<|(Vf t cf).1*6) Sl)<|Ba (v:=.agg (q0.cells).toArray) (Ma (l:=q0.cells) rZ vZ O O<|Sc (hF.cells0 hk0) 1 O) ?_;refine Fc (X3 t[(Vf t cf).1].sd q0 S _ (hF.rep hx0) (hm _<|eQ hkl).sd (hG.ext hF.same)) ?_;rintro _ w ⟨y,rfl,hRt,hE⟩;have hY:=RX.made (ids:=[b2,b1]) hF.same.size (λx hx=>hF.lt_ids (aS hx)) hRt;have hF:=hF.ext hE;clear hE hRt;refine rn 1 ?_;intro w hF hE;have hY:=hY.store hE qK;refine rn 4 ?_;have e:Ei t cf=(t[(Vf t cf).1].sd,true):=by unfold Ei;rw[uQ h0,List.getElem?_eq_getElem hkl]
 rw[e]
 ·exact⟨y,O,hY.done,hF.same⟩
theorem FR.takeB{w0 w w':World}{Ds:List Nat}{bs_:List (Nat × Obj)}{o:Obj}(hF:FR w0 Ds bs_ w)(hE:Same [] w w')(hh:w'.heap[b]? = some o)(hg:w.heap.size<=b):FR w0 Ds ((b,o)::bs_) w':=by
  have h:=hF.ext hE;refine⟨h.same,λp hp=>?_,List.pairwise_cons.2 ⟨λq hq e=>?_,h.desc⟩⟩
  ·rcases oQ.1 hp with rfl|hp
   ·exact⟨hh,.inl<|fQ hF.same.size hg⟩
   exact h.own p hp
  have := Pa (hF.own q hq).1;have e':q.1=b:=e;omega
def Lv{s:Sd}{k:Int}(h:Uo s k=true):Gj s=Nt s:=by
  unfold Gj Nt;unfold Uo at h;cases hs:s.has with
  | false=>rfl
  | true =>
    rw[hs]at h;simp only[Bool.not_true,Bool.false_or,vQ]at h;simp only[if_true];rw[Gs,uQ<|Zq h.1]
def zeroB_is{v:Tree}(h:Dq v=true):v=zeroT:=by
  obtain⟨k,t,ks,xs⟩:=v;unfold Dq at h;simp only[vQ,xQ]at h;obtain⟨h1,h2,h3,h4⟩:=h;simp only[Tree.kind,Tree.text,Tree.keys,Tree.items]at h1 h2 h3 h4;subst h1 h2 h3 h4;rfl
def copM_id{m:Mm}(h:Di m=true):GU m=m:=by
  obtain⟨pr,has,val⟩:=m;unfold Di at h;simp only[vQ,wQ]at h;unfold GU;simp only;rw[Lv h.2.1];unfold Nt;cases has with
  | true=>rfl
  | false =>
    have hz:Dq val=true:=aS h.2.2
    rw[zeroB_is hz];rfl
def HZ(h:Tf t=true):t.map GU=t:=by
  have h2:=(Hw.1 h).2.1;clear h
  induction t with
  | nil=>rfl
  | cons m t ih=>rw[lZ,copM_id<|h2 m aZ,ih λx hx=>h2 x<|iZ _ hx]
theorem Jl{S:Nat->Prop}{w:World}:∀{t:List Mm}{vals:List Value}(h:RepL S w (t.map Sw) vals)(k:Nat),k<=aL t->RepL S w ((t.take k).map Sw) (vals.take (k*6))/\RepL S w ((t.drop k).map Sw) (vals.drop (k*6))
  | [], vals, h, k, hk => by
    obtain rfl:=RepL.nil_inv h;simp;exact RepL.nil_mk
  | m::t,vals,h,0,hk=>by simpa using⟨RepL.nil_mk,h⟩
  | m :: t, vals, h, k + 1, hk => by
    obtain⟨c1,c2,rfl,h1,h2⟩:=RepL.cons_inv h;obtain⟨x,rfl,-,-⟩:=Yw h1;obtain⟨i1,i2⟩:=Jl h2 k (aS hk);have e:(k+1)*6=aL (Lp m.pr x)+k*6:=by simp[Lp];omega
    have e2:(Lp m.pr x++c2).drop (aL (Lp m.pr x)+k*6)=c2.drop (k*6):=by rw[<-List.drop_drop,List.drop_left]
    rw[e,List.take_length_add_append,e2];exact⟨RepL.cons_mk h1 i1,i2⟩
def I_{w0 w:World}{ids_:List Nat}{g n c:Nat}{l:List Mm}{vals:List Value}(hh:w.heap[g]? = some (.cells vals.toArray T))(hR:RX w0 ids_ w (l.map Sw) (vals.take (n*6)))(hg:w0.heap.size<=g)(hn:n=aL l)(hc:n<=c)(hm:c<=maxLen):Rep (Btw w0 w) w (Jd l) [W g n c]:=by
  refine Rep.slice_mk (by rw[rQ];exact hn) hc (by simpa[maxLen]using hm) λ_=>⟨_,O,_,λi hi=>?_,RX.doneL hR⟩;rw[Te,Nat.zero_add,Db hh,List.getElem?_toArray];rw[List.getElem_take,List.getElem?_eq_getElem (by rw[jZ]at hi;omega)];exact⟨O,hg,Pa hh,_,_,hh⟩
def has_at{p:Str}(h:O9 t p=true):∃hl:Hf t p<aL t,t[Hf t p].pr=p:=by
  unfold O9 at h;rcases Nat.lt_or_ge (Hf t p) (aL t) with h1|h1
  ·rw[List.getElem?_eq_getElem h1]at h
   exact⟨h1,mZ h⟩
  rw[List.getElem?_eq_none h1]at h;cases h
def low_le(t:List Mm)(p:Str):Hf t p<=aL t:=by
  unfold Hf;exact (List.takeWhile_prefix _).length_le
def Wp(t:List Mm)(c:Cf)(s:Sd):Bool:=Tf t&&((Nj c).2&&(Uo s c.cls && !(decide (c.cls=5) && !s.has)))
theorem record_c(t:List Mm)(A:Option Addr)(c:Nat)(cf:Cf)(q:Cv)(s:Sd)(x:Sv)(S S2 S3:Nat->Prop)(w0:World)(hX:Rep S w0 (Jd t) [.slice A (aL t) c])(hm:∀m∈t,MmOk m)(htl:aL t<=1000000)(hq:CvOf S2 w0 cf q)(hP:CfP cf)(hx:Rep S3 w0 (Ad s) x.cells)(hs:SdOk s)(hG:Gl w0)(hpl:aL (Nj cf).1<=9223372036854775807):Calls prog 20 #[.slice A (aL t) c,.agg q.cells.toArray,.agg x.cells.toArray] w0 (Za λv w'=>∃(A':Option Addr)(c':Nat),v=.tuple #[.slice A' (aL (Ti t cf s).1) c',J (Ti t cf s).2]/\Rep (Btw w0 w') w' (Jd (Ti t cf s).1) [.slice A' (aL (Ti t cf s).1) c']/\Same [] w0 w'):=by
 have hqk:=hq.k;have hxh:=(Lc hx).1;refine Ea func20 ntmps20 ?_;intro hF;refine rn 3 ?_;rintro b1 w hb1 hF -;refine rn 1 ?_;rintro b2 w hb2 hF -;refine rn 7<|Ia (JE cf q S2 _ ⟨hq.n,hq.k,hF.rep hq.p,hF.rep hq.x,hF.rep hq.y,hF.rep hq.z⟩ hP<|hG.ext hF.same) ?_;rintro w hF -;refine rn 9<|Eb (λσ w=>∃(bd:Bool),(bd = !(Wp t cf s))/\AllEq σ [(0,.slice A (aL t) c),(5,V b2),(8,I<|(Nj cf).1),(41,.bool bd)]/\FR w0 [] [(b2,.cells (x.cells).toArray 38),(b1,.cells (q.cells).toArray 40)] w) ?_ ?_;refine rn 2<|Ia (Gx t A c S _ (hF.rep hX) hm<|hG.ext hF.same) ?_;rintro w hF -;refine rn 3 ⟨λhg0=>?_,λhg0=>?_⟩;refine rn 21 ?_;exact Ha ⟨true,jJ,Va,hF⟩;refine rn 5 ⟨λhg1=>?_,λhg1=>?_⟩;refine rn 17 ?_;exact Ha ⟨true,jJ,Va,hF⟩;refine rn 3<|Ia (TO s x q.k S3 _ (hF.rep hx) hs<|hG.ext hF.same) ?_;rintro w hF -;refine rn 4 ⟨λhg2=>?_,λhg2=>?_⟩;refine rn 10 ?_;exact Ha ⟨true,jJ,Va,hF⟩;refine rn 5 ⟨λhg3=>?_,λhg3=>?_⟩;refine rn 6 ?_;exact Ha ⟨!(x.h),jJ,Va,hF⟩;refine rn 6 ?_;exact Ha ⟨false,jJ,Va,hF⟩;rintro σ w ⟨bd,hbd,hzz,hF⟩;refine Aj hzz 2 ⟨λhc0=>?_,λhc0=>?_⟩;have h0:Wp t cf s=false:=by rw[hbd]at hc0;simpa using hc0
 refine rn 7 ?_;have e:Ti t cf s=([],1):=by unfold Ti;rw[tQ (by unfold Wp at h0;rw[h0];decide)]
 rw[e];exact⟨none,0,O,Rep.nil_slice 0 Aa none,hF.same⟩;have h0:Wp t cf s=true:=by rw[hbd]at hc0;simpa using hc0
 obtain⟨hR1,hP1,hf1,-⟩:Tf t=true/\(Nj cf).2=true/\Uo s cf.cls=true/\True:=by unfold Wp at h0;simp only[vQ]at h0;exact⟨h0.1,h0.2.1,h0.2.2.1,trivial⟩
 refine rn 5 ?_;have hsz:=hF.same.size;refine Fc (PV t A c S _ (hF.rep hX) hm htl<|hG.ext hF.same) ?_;rintro _ w ⟨gb,vals,rfl,hgb,hvl,hge,hV,hE⟩;have hF:=hF.takeB hE hgb hge;rw[HZ hR1]at hV;have hV:=hV.base hsz;clear hE hgb;refine rn 7<|Ia (QQ t (Nj cf).1 A c S _ (hF.rep hX) (Hw.1 hR1).1 htl) ?_;intro w hF hE;have hV:=hV.ext hE;refine rn 16 ⟨λhc1=>?_,λhc1=>?_⟩;refine rn 1 ?_;obtain⟨hkl,hkp⟩:=has_at (aS hc1);obtain⟨x7,hx7,-,-⟩:=Sz hV hkl;have ev7:vals=vals.take ((Hf t (Nj cf).1)*6)++(Lp t[(Hf t (Nj cf).1)].pr x7++vals.drop (((Hf t (Nj cf).1)+1)*6)):=by rw[<-hx7,List.take_append_drop]
 rw[ev7]at hF;have hF:FR w0 [] [(gb,(.cells (vals.take ((Hf t (Nj cf).1)*6)++(Lp t[(Hf t (Nj cf).1)].pr x7++vals.drop (((Hf t (Nj cf).1)+1)*6))).toArray 44)),(b2,.cells (x.cells).toArray 38),(b1,.cells (q.cells).toArray 40)] w:=hF;have hcut:=Jl hV (Hf t (Nj cf).1) Aa;have hcut2:=Jl hV ((Hf t (Nj cf).1)+1) Aa;refine rn 4<|Fc (X3 s x S3 _ (hF.rep hx) hs<|hG.ext hF.same) ?_;rintro _ w ⟨y,rfl,hRt,hE⟩;have hY:=RX.made (ids:=[gb]) hF.same.size (λx hx=>by rw[pQ.1 hx];exact hF.lt (i:=0) rfl) hRt;rw[Lv hf1]at hY;have hV:=hV.ext hE;have hF:=hF.ext hE;clear hE hRt;refine Ba (v:=.pointer<|some ⟨gb,(Hf t (Nj cf).1)*6,none⟩) (Kb (i:=((Hf t (Nj cf).1):Int)) ((Hf t (Nj cf).1)*6) Kf O O Aa Aa qR)<|rn 1 ?_;refine Ye 0 (l:=y.cells) (off:=(Hf t (Nj cf).1)*6+1) (cs':=(vals.take ((Hf t (Nj cf).1)*6)++(Lp t[(Hf t (Nj cf).1)].pr y++vals.drop (((Hf t (Nj cf).1)+1)*6))).toArray) hF vZ O (v:=.agg y.cells.toArray) O O Eo O (by simp[Lp,hvl];omega) (OF (by rw[jZ,hvl];omega) O) ?_;intro w hF hE;have hV:=hV.store hE Da;have hY:=hY.store hE Da
 skip
 have hF:FR w0 [] [(gb,(.cells (vals.take ((Hf t (Nj cf).1)*6)++(Lp t[(Hf t (Nj cf).1)].pr y++vals.drop (((Hf t (Nj cf).1)+1)*6))).toArray 44)),(b2,.cells (x.cells).toArray 38),(b1,.cells (q.cells).toArray 40)] w:=hF;refine rn 10 ?_;have e:Ti t cf s=(t.take (Hf t (Nj cf).1)++⟨(Nj cf).1,Nt s⟩::t.drop ((Hf t (Nj cf).1)+1),0):=by unfold Ti;rw[uQ (by unfold Wp at h0;exact h0)];simp only;rw[uQ (aS hc1)]
 rw[e];have el:aL (t.take (Hf t (Nj cf).1)++(⟨(Nj cf).1,Nt s⟩:Mm)::t.drop ((Hf t (Nj cf).1)+1))=aL t:=by simp only[dQ,kQ,jZ,zQ];omega
 simp only[el];refine⟨some ⟨gb,0,none⟩,aL t,O,I_ (ids_:=[gb]) (hF.heap (i:=0) O) ?_ (hF.ge (i:=0) O) el.symm (gQ _) qN,hF.same⟩;rw[show (vals.take ((Hf t (Nj cf).1)*6)++(Lp t[(Hf t (Nj cf).1)].pr y++vals.drop (((Hf t (Nj cf).1)+1)*6))).take (aL t*6)=_ from eZ (by simp[Lp,hvl];omega),jQ,lZ];refine RepL.append (Jl hV (Hf t (Nj cf).1) Aa).1<|RepL.cons_mk ?_ (Jl hV ((Hf t (Nj cf).1)+1) Aa).2;rw[hkp];exact V8 (m:=⟨(Nj cf).1,Nt s⟩) hY.rep (by have:=(hm _<|eQ hkl).pr;rw[hkp]at this;exact fQ this Ja);refine rn 9 ⟨λhc2=>?_,λhc2=>?_⟩;refine rn 7 ?_;have e:Ti t cf s=([],11):=by unfold Ti;rw[uQ (by unfold Wp at h0;exact h0)];simp only;rw[tQ (aS hc1),uQ Aa]
 rw[e];exact⟨none,0,O,Rep.nil_slice 0 Aa none,hF.same⟩;refine rn 9<|Fc (X3 s x S3 _ (hF.rep hx) hs<|hG.ext hF.same) ?_;rintro _ w ⟨y,rfl,hRt,hE⟩;have hY:=RX.made (ids:=[gb]) hF.same.size (λx hx=>by rw[pQ.1 hx];exact hF.lt (i:=0) rfl) hRt;rw[Lv hf1]at hY;have hV:=hV.ext hE;have hF:=hF.ext hE;clear hE hRt;refine Ba (w':=w) (v:=.agg #[I<|(Nj cf).1,.bool y.h,J y.v.k,I y.v.t,.slice y.v.A y.v.n y.v.c,.slice y.v.B y.v.m y.v.e]) Ua<|rn 1 ?_;intro b3 w hb3 hF hE;have hV:=hV.alloc hE hb3;have hY:=hY.alloc hE hb3;have hsz2:=hF.same.size;refine Fc (insert_c gb b3 (aL t) (Hf t (Nj cf).1) vals (Lp (Nj cf).1 y) _ (hF.heap (i:=1) rfl) (hF.heap (i:=0) rfl) hvl rfl (low_le _ _) htl (RepL.one_ hV) (by intro v hv;simp[Lp]at hv;rcases hv with rfl|rfl|rfl|rfl|rfl|rfl <;> rfl)) ?_;rintro _ w ⟨g2,c2,vals2,rfl,hg2,hle2,hcm2,hvl2,htk2,hge2,hE⟩;have hV:=hV.ext hE;have hY:=hY.ext hE;have hF:=hF.takeB hE hg2 hge2;refine rn 5 ?_;have e:Ti t cf s=(t.take (Hf t (Nj cf).1)++⟨(Nj cf).1,Nt s⟩::t.drop (Hf t (Nj cf).1),0):=by unfold Ti;rw[uQ (by unfold Wp at h0;exact h0)];simp only;rw[tQ (aS hc1),tQ Aa]
 rw[e];have hkl:=low_le t (Nj cf).1;have el:aL (t.take (Hf t (Nj cf).1)++(⟨(Nj cf).1,Nt s⟩:Mm)::t.drop (Hf t (Nj cf).1))=aL t+1:=by simp only[dQ,kQ,jZ,zQ];omega
 simp only[el];refine⟨some ⟨g2,0,none⟩,c2,O,I_ (ids_:=[b3,gb]) (hF.heap (i:=0) O) ?_ (hF.ge (i:=0) O) el.symm hle2 hcm2,hF.same⟩;rw[htk2,jQ,lZ];exact RepL.append (Jl hV (Hf t (Nj cf).1) hkl).1<|RepL.cons_mk (V8 (m:=⟨(Nj cf).1,Nt s⟩) hY.rep hpl) (Jl hV (Hf t (Nj cf).1) hkl).2
end Go.Scarf
